/- Sums of digits: bakeref1's Adder and Inverse; slices.Clone. -/
import Derived.Test.YtjggjnjmnmdgaaaBit2
namespace Go.Proofs.Ytjggjnjmnmdgaaa
open Go.Fw
set_option linter.unusedVariables false
set_option linter.unusedSimpArgs false
set_option maxRecDepth 100000

def cloneS : PSpec := ⟨[gl], fun (l, _) => (some (List.length l ≤ 1000000), .cell (.own 0), [.arr (.int .i64) l])⟩
theorem clone_ok : Good Try.prog 27 cloneS.spec := by
  have hT := tab_ok (fs := []) tree_ok
  have hP : SpecsOk Try.prog (tab tree []) := specs_nil
  refine cloneS.good (fn := Try.f27) hT hP Try.func27 (by kernel_rfl) rfl fun (l : List Int) hp => ?_
  have hp : l.length ≤ 1000000 := hp _ rfl
  repeat' first
    | (refine Go.mk ?_; conv => whnf)
    | refine Need.go ?_ ?_
    | refine NilG.go (fun _ => ?_) (fun _ => ?_)
    | refine Br.dec (fun _ => ?_) (fun _ => ?_)
    | refine Br.go (fun _ => ?_) (fun _ => ?_)
    | refine draw_go hT hP mixed ?_
  · rename_i h0
    have h0 : l = [] := List.eq_nil_of_length_eq_zero h0
    subst h0
    exact .le (Le.nil 2 (.int .i64) rfl) (.mk [] [0] _ rfl rfl rfl rfl rfl rfl rfl)
  · show (0 + l.length) * 8 ≤ _
    omega
  · exact .mk [] [1] _ rfl rfl rfl rfl rfl rfl rfl

def invF (l : List Int) : List Int := l.map fun x => IntKind.i64.wrap (1 - x)
def invS : PSpec := ⟨[gl], fun (l, _) => (some (List.length l ≤ 1000000), .cell (.own 0), [.arr (.int .i64) (invF l)])⟩
theorem inv_ok : Good Try.prog 22 invS.spec := by
  have hT := tab_ok (fs := []) tree_ok
  have hP : SpecsOk Try.prog (tab tree []) := specs_nil
  refine invS.good (fn := Try.f22) hT hP Try.func22 (by kernel_rfl) rfl fun (l : List Int) hp => ?_
  have hp : l.length ≤ 1000000 := hp _ rfl
  repeat' first
    | (refine Go.mk ?_; conv => whnf)
    | refine Need.go ?_ ?_
    | refine Br.dec (fun _ => ?_) (fun _ => ?_)
    | refine Br.go (fun _ => ?_) (fun _ => ?_)
  refine loop_go hT hP (X := Int × List Int) (fun (i, out) => mkSt 19 [(3, .cell (.own 0)), (6, .cell (.ro (.int .i64) l)), (7, I l.length), (8, I i)] [some (.arr (.int .i64) out)])
    (fun (i, out) => 0 ≤ i ∧ i ≤ l.length ∧ out = invF (l.take i.toNat)) (fun (i, _) => (l.length - i).toNat) (0, []) (Le.trans (Le.nil 3 (.int .i64) rfl) (Le.mk [] [0] rfl rfl rfl ?_)) ?_ fun (i, out) hi => ?_
  rotate_right
  repeat' first
    | (refine Go.mk ?_; conv => whnf)
    | refine Need.go ?_ ?_
    | refine Br.dec (fun _ => ?_) (fun _ => ?_)
    | refine Br.go (fun _ => ?_) (fun _ => ?_)
  · exact ⟨hi.1, by assumption⟩
  · obtain ⟨h1, h2, rfl⟩ := hi
    show ((invF (l.take i.toNat)).length + 1) * 8 ≤ _
    simp only [invF, List.length_map, List.length_take]
    omega
  · rename_i hlt
    obtain ⟨h1, h2, h3⟩ := hi
    have e : IntKind.i64.wrap (i + 1) = i + 1 := w64 (by omega) (by omega)
    apply Exists.intro (_, _)
    refine And.intro ?_ (And.intro ?_ (Le.mk [] [2] rfl rfl ?hh ?ht))
    case hh => exact rfl
    case ht => repeat' first | exact trivial | exact ⟨rfl, rfl⟩ | refine And.intro ?_ ?_
    · show 0 ≤ IntKind.i64.wrap (i + 1) ∧ IntKind.i64.wrap (i + 1) ≤ l.length ∧ out ++ [IntKind.i64.wrap (1 - l.getD i.toNat 0)] = invF (l.take (IntKind.i64.wrap (i + 1)).toNat)
      rw [e]
      refine ⟨by omega, by omega, ?_⟩
      have e1 : (i + 1).toNat = i.toNat + 1 := by omega
      have hlt' : i.toNat < l.length := by omega
      have e4 : l.getD i.toNat 0 = l[i.toNat] := by simp [hlt']
      rw [e1, List.take_succ_eq_append_getElem hlt', h3, e4]
      unfold invF
      rw [List.map_append]
      rfl
    · show (l.length - IntKind.i64.wrap (i + 1)).toNat < (l.length - i).toNat
      rw [e]
      omega
  · obtain ⟨h1, h2, h3⟩ := hi
    refine .mk [] [0] _ rfl rfl rfl rfl rfl ?_ rfl
    have e : i.toNat = l.length := by omega
    show [some (Blk.arr (.int .i64) out)] = [some (Blk.arr (.int .i64) (invF l))]
    rw [h3, e, List.take_length]
  · repeat' first | exact trivial | exact ⟨rfl, rfl⟩ | refine And.intro ?_ ?_
  · exact ⟨Int.le_refl _, by omega, rfl⟩

def addSum (x y c : Int) : Int := IntKind.i64.wrap (IntKind.i64.wrap (x + y) + c)
def adderF : List Int → List Int → Int → List Int × Int
  | [], _, c => ([], c)
  | x :: a, b, c => ((addSum x (b.headD 0) c).tmod 2 :: (adderF a b.tail (IntKind.i64.wrap ((addSum x (b.headD 0) c).tdiv 2))).1, (adderF a b.tail (IntKind.i64.wrap ((addSum x (b.headD 0) c).tdiv 2))).2)
theorem adderF_drop (a b : List Int) (i : Nat) (c : Int) (h : i < a.length) : adderF (a.drop i) (b.drop i) c =
    ((addSum (a.getD i 0) (b.getD i 0) c).tmod 2 :: (adderF (a.drop (i + 1)) (b.drop (i + 1)) (IntKind.i64.wrap ((addSum (a.getD i 0) (b.getD i 0) c).tdiv 2))).1, (adderF (a.drop (i + 1)) (b.drop (i + 1)) (IntKind.i64.wrap ((addSum (a.getD i 0) (b.getD i 0) c).tdiv 2))).2) := by
  rw [List.drop_eq_getElem_cons h]
  have e1 : (b.drop i).headD 0 = b.getD i 0 := by
    rw [List.headD_eq_head?_getD, List.head?_drop, List.getD_eq_getElem?_getD]
  have e2 : (b.drop i).tail = b.drop (i + 1) := by rw [List.tail_drop]
  have e3 : a.getD i 0 = a[i] := by simp [h]
  rw [adderF, e1, e2, e3]
def adderS : PSpec := ⟨[gl, gl, gi], fun (a, b, c, _) => (some (List.length a ≤ List.length b ∧ List.length b ≤ 1000000), .tup [.c (.own 0), I1 (adderF a b c).2], [.arr (.int .i64) (adderF a b c).1])⟩
theorem adder_ok : Good Try.prog 21 adderS.spec := by
  have hT := tab_ok (fs := []) tree_ok
  have hP : SpecsOk Try.prog (tab tree []) := specs_nil
  refine adderS.good (fn := Try.f21) hT hP Try.func21 (by kernel_rfl) rfl fun (a b : List Int) (c0 : Int) hp => ?_
  have hp : a.length ≤ b.length ∧ b.length ≤ 1000000 := hp _ rfl
  repeat' first
    | (refine Go.mk ?_; conv => whnf)
    | refine Need.go ?_ ?_
    | refine Br.dec (fun _ => ?_) (fun _ => ?_)
    | refine Br.go (fun _ => ?_) (fun _ => ?_)
  refine loop_go hT hP (X := Int × List Int × Int) (fun (i, out, c) => mkSt 37 [(0, .cell (.ro (.int .i64) a)), (1, .cell (.ro (.int .i64) b)), (2, I c), (8, .cell (.own 0)), (12, I a.length), (13, I i)] [some (.arr (.int .i64) out)])
    (fun (i, out, c) => 0 ≤ i ∧ i ≤ a.length ∧ out.length = i.toNat ∧ adderF a b c0 = (out ++ (adderF (a.drop i.toNat) (b.drop i.toNat) c).1, (adderF (a.drop i.toNat) (b.drop i.toNat) c).2)) (fun (i, _) => (a.length - i).toNat) (0, [], c0)
    (Le.trans (Le.nil 8 (.int .i64) rfl) (Le.mk [] [0] rfl rfl rfl ?_)) ?_ fun (i, out, c) hi => ?_
  rotate_right
  repeat' first
    | (refine Go.mk ?_; conv => whnf)
    | refine Need.go ?_ ?_
    | refine Br.dec (fun _ => ?_) (fun _ => ?_)
    | refine Br.go (fun _ => ?_) (fun _ => ?_)
    | refine draw_go hT hP mixed ?_
  · exact ⟨hi.1, by assumption⟩
  · obtain ⟨h1, h2, h3, h4⟩ := hi
    exact ⟨h1, by omega⟩
  · decide
  · obtain ⟨h1, h2, h3, h4⟩ := hi
    show (out.length + 1) * 8 ≤ _
    omega
  · decide
  · rename_i hlt
    obtain ⟨h1, h2, h3, h4⟩ := hi
    have e : IntKind.i64.wrap (i + 1) = i + 1 := w64 (by omega) (by omega)
    apply Exists.intro (_, _, _)
    refine And.intro ?_ (And.intro ?_ (Le.mk [] [2] rfl rfl ?hh ?ht))
    case hh => exact rfl
    case ht => repeat' first | exact trivial | exact ⟨rfl, rfl⟩ | refine And.intro ?_ ?_
    · show 0 ≤ IntKind.i64.wrap (i + 1) ∧ IntKind.i64.wrap (i + 1) ≤ a.length ∧ (out ++ [(addSum (a.getD i.toNat 0) (b.getD i.toNat 0) c).tmod 2]).length = (IntKind.i64.wrap (i + 1)).toNat ∧
        adderF a b c0 = ((out ++ [(addSum (a.getD i.toNat 0) (b.getD i.toNat 0) c).tmod 2]) ++ (adderF (a.drop (IntKind.i64.wrap (i + 1)).toNat) (b.drop (IntKind.i64.wrap (i + 1)).toNat) (IntKind.i64.wrap ((addSum (a.getD i.toNat 0) (b.getD i.toNat 0) c).tdiv 2))).1,
          (adderF (a.drop (IntKind.i64.wrap (i + 1)).toNat) (b.drop (IntKind.i64.wrap (i + 1)).toNat) (IntKind.i64.wrap ((addSum (a.getD i.toNat 0) (b.getD i.toNat 0) c).tdiv 2))).2)
      rw [e]
      have e1 : (i + 1).toNat = i.toNat + 1 := by omega
      refine ⟨by omega, by omega, by simp; omega, ?_⟩
      rw [e1, h4, adderF_drop a b i.toNat c (by omega)]
      simp
    · show (a.length - IntKind.i64.wrap (i + 1)).toNat < (a.length - i).toNat
      rw [e]
      omega
  · obtain ⟨h1, h2, h3, h4⟩ := hi
    have e : i.toNat = a.length := by omega
    rw [e, List.drop_length] at h4
    have h5 : adderF a b c0 = (out, c) := by rw [h4]; simp [adderF]
    refine .mk [] [0] _ rfl rfl rfl rfl rfl ?_ ?_
    · show [some (Blk.arr (.int .i64) out)] = [some (Blk.arr (.int .i64) (adderF a b c0).1)]
      rw [h5]
    · show AV.tup [.c (.own 0), I1 c] = AV.tup [.c (.own 0), I1 (adderF a b c0).2]
      rw [h5]
  · repeat' first | exact trivial | exact ⟨rfl, rfl⟩ | refine And.intro ?_ ?_
  · exact ⟨Int.le_refl _, by omega, rfl, by simp⟩

end Go.Proofs.Ytjggjnjmnmdgaaa
