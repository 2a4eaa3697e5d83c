/- Numbers as lists of digits: bakeref1's Digits2, Of2, limit. -/
import Derived.Test.YtjggjnjmnmdgaaaBit
import Derived.Test.YtjggjnjmnmdgaaaNum
namespace Go.Proofs.Ytjggjnjmnmdgaaa
open Go.Fw
set_option linter.unusedVariables false
set_option linter.unusedSimpArgs false
set_option maxRecDepth 100000

def limitF (a b c : Int) : Int := if a < b then b else if a > c then c else a
def limitS : PSpec := ⟨[gi, gi, gi], fun (a, b, c, _) => (none, I (limitF a b c), [])⟩
theorem limit_ok : Good Try.prog 83 limitS.spec := by
  have hT := tab_ok (fs := []) tree_ok
  have hP : SpecsOk Try.prog (tab tree []) := specs_nil
  refine limitS.good (fn := Try.f83) hT hP Try.func83 (by kernel_rfl) rfl fun (a b c : Int) _ => ?_
  repeat' first
    | (refine Go.mk ?_; conv => whnf)
    | refine Need.go ?_ ?_
    | refine Br.dec (fun _ => ?_) (fun _ => ?_)
    | refine Br.go (fun _ => ?_) (fun _ => ?_)
  · refine .mk [] [] _ rfl rfl rfl rfl rfl rfl (imm_int ?_)
    show _ = limitF a b c
    unfold limitF
    rw [if_pos (by assumption)]
  · refine .mk [] [] _ rfl rfl rfl rfl rfl rfl (imm_int ?_)
    show _ = limitF a b c
    unfold limitF
    rw [if_neg (by assumption), if_pos (by assumption)]
  · refine .mk [] [] _ rfl rfl rfl rfl rfl rfl (imm_int ?_)
    show _ = limitF a b c
    unfold limitF
    rw [if_neg (by assumption), if_neg (by assumption)]

def digitF (n : Int) (i : Int) : Int := IntKind.i64.wrap (land .u64 (shr .u64 (IntKind.u64.wrap n) i) 1)
def digF (n : Int) (k : Nat) : List Int := (List.range k).map fun (i : Nat) => digitF n i
def dig2F (a b : Int) : List Int := digF a (limitF b 0 62).toNat
def digS : PSpec := ⟨[gi, gi], fun (a, b, _) => (none, .cell (.own 0), [.arr (.int .i64) (dig2F a b)])⟩
theorem limitF_in (b : Int) : 0 ≤ limitF b 0 62 ∧ limitF b 0 62 ≤ 62 := by
  unfold limitF; (split <;> try split) <;> omega
theorem digF_succ (a i : Int) (h : 0 ≤ i) : digF a i.toNat ++ [digitF a i] = digF a (i + 1).toNat := by
  have e : (i + 1).toNat = i.toNat + 1 := by omega
  have e2 : ((i.toNat : Nat) : Int) = i := by omega
  rw [e]
  simp only [digF, List.range_succ, List.map_append, List.map_cons, List.map_nil, e2]
theorem dig_ok : Good Try.prog 17 digS.spec := by
  have hT := tab_ok (fs := [(83, limitS.spec)]) tree_ok
  have hP : SpecsOk Try.prog (tab tree [(83, limitS.spec)]) := specs_cons limit_ok specs_nil
  refine digS.good (fn := Try.f17) hT hP Try.func17 (by kernel_rfl) rfl fun (a b : Int) _ => ?_
  repeat' first
    | (refine Go.mk ?_; conv => whnf)
    | refine Need.go ?_ ?_
    | refine Br.dec (fun _ => ?_) (fun _ => ?_)
    | refine Br.go (fun _ => ?_) (fun _ => ?_)
  obtain ⟨hl0, hl1⟩ := limitF_in b
  refine loop_go hT hP (X := Int × List Int) (fun (i, out) => St.mk [I a, .dead, .dead, .dead, .dead, .cell (.own 0), .dead, .dead, I (limitF b 0 62), I i, .dead, .dead, .dead, .dead, .dead, .dead, .dead, .dead, .dead, .dead, .dead, .dead, .dead] [some (.arr (.int .i64) out)])
    (fun (i, out) => 0 ≤ i ∧ i ≤ limitF b 0 62 ∧ out = digF a i.toNat) (fun (i, _) => (limitF b 0 62 - i).toNat) (0, []) (Le.trans (Le.nil 5 (.int .i64) rfl) (Le.mk [] [0] rfl rfl rfl ?_)) ?_ fun (i, out) hi => ?_
  rotate_right
  repeat' first
    | (refine Go.mk ?_; conv => whnf)
    | refine Need.go ?_ ?_
    | refine Br.dec (fun _ => ?_) (fun _ => ?_)
    | refine Br.go (fun _ => ?_) (fun _ => ?_)
  · exact hi.1
  · obtain ⟨h1, h2, rfl⟩ := hi
    simp only [digF, castL, List.length_map, List.length_range, List.length_singleton]
    show _ * 8 ≤ _
    omega
  · rename_i hlt
    obtain ⟨h1, h2, h3⟩ := hi
    have e : IntKind.i64.wrap (i + 1) = i + 1 := w64 (by omega) (by omega)
    apply Exists.intro (_, _)
    refine And.intro ?_ (And.intro ?_ (Le.mk [] [2] rfl rfl ?hh ?ht))
    case hh => exact rfl
    case ht => repeat' first | exact trivial | exact ⟨rfl, rfl⟩ | refine And.intro ?_ ?_
    · show 0 ≤ IntKind.i64.wrap (i + 1) ∧ IntKind.i64.wrap (i + 1) ≤ limitF b 0 62 ∧ _ = digF a (IntKind.i64.wrap (i + 1)).toNat
      rw [e]
      refine ⟨by omega, by omega, ?_⟩
      rw [← digF_succ a i h1, h3]
      rfl
    · show (limitF b 0 62 - IntKind.i64.wrap (i + 1)).toNat < (limitF b 0 62 - i).toNat
      rw [e]
      omega
  · obtain ⟨h1, h2, h3⟩ := hi
    refine .mk [] [0] _ rfl rfl rfl rfl rfl ?_ rfl
    have e : i = limitF b 0 62 := by omega
    subst e
    show [some (Blk.arr (.int .i64) out)] = [some (Blk.arr (.int .i64) (dig2F a b))]
    rw [h3]
    rfl
  · repeat' first | exact trivial | exact ⟨rfl, rfl⟩ | refine And.intro ?_ ?_
  · exact ⟨Int.le_refl _, hl0, rfl⟩

def of2F (l : List Int) : Int := l.foldr (fun d n => IntKind.i64.wrap (IntKind.i64.wrap (2 * n) + d)) 0
abbrev gl : Sig := ⟨false, .sl (.int .i64)⟩
def of2S : PSpec := ⟨[gl], fun (l, _) => (some (List.length l ≤ 1000000000000), I (of2F l), [])⟩
theorem of2_ok : Good Try.prog 18 of2S.spec := by
  have hT := tab_ok (fs := []) tree_ok
  have hP : SpecsOk Try.prog (tab tree []) := specs_nil
  refine of2S.good (fn := Try.f18) hT hP Try.func18 (by kernel_rfl) rfl fun (l : List Int) hp => ?_
  have hp : l.length ≤ 1000000000000 := hp _ rfl
  repeat' first
    | (refine Go.mk ?_; conv => whnf)
    | refine Need.go ?_ ?_
    | refine Br.dec (fun _ => ?_) (fun _ => ?_)
    | refine Br.go (fun _ => ?_) (fun _ => ?_)
  refine loop_go hT hP (X := Int × Int) (fun (n, i) => St.mk [.cell (.ro (.int .i64) l), .dead, .dead, I n, I i, .dead, .dead, .dead, .dead, .dead, .dead, .dead, .dead, .dead, .dead, .dead, .dead, .dead, .dead, .dead] [])
    (fun (n, i) => -1 ≤ i ∧ i < l.length ∧ n = of2F (l.drop (i + 1).toNat)) (fun (_, i) => (i + 1).toNat) (0, IntKind.i64.wrap (l.length - 1)) (Le.mk [] [] rfl rfl rfl ?_) ?_ fun (n, i) hi => ?_
  rotate_right
  repeat' first
    | (refine Go.mk ?_; conv => whnf)
    | refine Need.go ?_ ?_
    | refine Br.dec (fun _ => ?_) (fun _ => ?_)
    | refine Br.go (fun _ => ?_) (fun _ => ?_)
  · exact ⟨by assumption, hi.2.1⟩
  · rename_i hge
    obtain ⟨h1, h2, h3⟩ := hi
    have e : IntKind.i64.wrap (i - 1) = i - 1 := w64 (by omega) (by omega)
    apply Exists.intro (_, _)
    refine And.intro ?_ (And.intro ?_ (Le.mk [] [] rfl rfl ?hh ?ht))
    case hh => exact rfl
    case ht => repeat' first | exact trivial | exact ⟨rfl, rfl⟩ | refine And.intro ?_ ?_
    · show -1 ≤ IntKind.i64.wrap (i - 1) ∧ IntKind.i64.wrap (i - 1) < l.length ∧ IntKind.i64.wrap (IntKind.i64.wrap (2 * n) + l.getD i.toNat 0) = of2F (l.drop (IntKind.i64.wrap (i - 1) + 1).toNat)
      rw [e]
      refine ⟨by omega, by omega, ?_⟩
      have hlt : i.toNat < l.length := by omega
      have e2 : (i - 1 + 1).toNat = i.toNat := by omega
      have e3 : (i + 1).toNat = i.toNat + 1 := by omega
      rw [e2, List.drop_eq_getElem_cons hlt, h3, e3]
      have e4 : l.getD i.toNat 0 = l[i.toNat] := by simp [hlt]
      rw [e4]
      rfl
    · show (IntKind.i64.wrap (i - 1) + 1).toNat < (i + 1).toNat
      rw [e]
      omega
  · obtain ⟨h1, h2, h3⟩ := hi
    refine .mk [] [] _ rfl rfl rfl rfl rfl rfl (imm_int ?_)
    have e : (i + 1).toNat = 0 := by omega
    rw [e] at h3
    exact h3
  · repeat' first | exact trivial | exact ⟨rfl, rfl⟩ | refine And.intro ?_ ?_
  · have e : IntKind.i64.wrap (l.length - 1) = l.length - 1 := w64 (by omega) (by omega)
    show -1 ≤ IntKind.i64.wrap (l.length - 1) ∧ IntKind.i64.wrap (l.length - 1) < l.length ∧ 0 = of2F (l.drop (IntKind.i64.wrap (l.length - 1) + 1).toNat)
    rw [e]
    refine ⟨by omega, by omega, ?_⟩
    rw [List.drop_of_length_le (by omega)]
    rfl

end Go.Proofs.Ytjggjnjmnmdgaaa
