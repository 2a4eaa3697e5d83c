/- The functions of package pin, and bakeref1's lines. -/
import Derived.Test.YtjggjnjmnmdgaaaPinLaw
import Derived.Test.YtjggjnjmnmdgaaaFw30
namespace Go.Proofs.Ytjggjnjmnmdgaaa
open Go.Fw
set_option linter.unusedVariables false
set_option linter.unusedSimpArgs false
set_option maxRecDepth 100000

theorem tup2_bool {a b c d : Bool} (h1 : a = c) (h2 : b = d) : AV.tup [.c (bv a), .c (bv b)] = AV.tup [.c (bv c), .c (bv d)] := by rw [h1, h2]
theorem any_take {α : Type} [Inhabited α] (l : List α) (d : α) (p : α → Bool) {k : Nat} (h : k < l.length) : (l.take (k + 1)).any p = ((l.take k).any p || p (l.getD k d)) := by
  rw [List.take_succ_eq_append_getElem h, List.any_append]
  simp [h]

def pfitS : PSpec := ⟨[gi], fun (a, _) => (none, I (fitF a), [])⟩
theorem pfit_ok : Good Try.prog 103 pfitS.spec := by
  have hT := tab_ok (fs := []) tree_ok
  have hP : SpecsOk Try.prog (tab tree []) := specs_nil
  refine pfitS.good (fn := Try.f103) hT hP Try.func103 (by kernel_rfl) rfl fun (a : Int) _ => ?_
  repeat' first
    | (refine Go.mk ?_; conv => whnf)
    | refine Need.go ?_ ?_
    | refine NilG.go (fun _ => ?_) (fun _ => ?_)
    | refine Br.dec (fun _ => ?_) (fun _ => ?_)
    | refine Br.go (fun _ => ?_) (fun _ => ?_)
    | refine draw_go hT hP mixed ?_
    | refine round_go hT hP ?_
  all_goals
    refine .mk [] [] _ rfl rfl rfl rfl rfl rfl (imm_int ?_)
    show _ = fitF a
    unfold fitF
    split <;> (try split) <;> omega

def joinS : PSpec := ⟨[gi, gi], fun (a, b, _) => (none, I (joinF a b), [])⟩
theorem join_ok : Good Try.prog 69 joinS.spec := by
  have hT := tab_ok (fs := [(103, pfitS.spec)]) tree_ok
  have hP : SpecsOk Try.prog (tab tree [(103, pfitS.spec)]) := specs_cons pfit_ok specs_nil
  refine joinS.good (fn := Try.f69) hT hP Try.func69 (by kernel_rfl) rfl fun (a b : Int) _ => ?_
  repeat' first
    | (refine Go.mk ?_; conv => whnf)
    | refine Need.go ?_ ?_
    | refine NilG.go (fun _ => ?_) (fun _ => ?_)
    | refine Br.dec (fun _ => ?_) (fun _ => ?_)
    | refine Br.go (fun _ => ?_) (fun _ => ?_)
    | refine draw_go hT hP mixed ?_
    | refine round_go hT hP ?_
  all_goals
    refine .mk [] [] _ rfl rfl rfl rfl rfl rfl (imm_int ?_)
    show _ = joinF a b
    simp_all [joinF]

def allS : PSpec := ⟨[gl], fun (l, _) => (some (List.length l ≤ 4611686018427387904), I (allF l), [])⟩
theorem all_ok : Good Try.prog 70 allS.spec := by
  have hT := tab_ok (fs := [(69, joinS.spec)]) tree_ok
  have hP : SpecsOk Try.prog (tab tree [(69, joinS.spec)]) := specs_cons join_ok specs_nil
  refine allS.good (fn := Try.f70) hT hP Try.func70 (by kernel_rfl) rfl fun (l : List Int) hp => ?_
  have hp : l.length ≤ 4611686018427387904 := hp _ rfl
  repeat' first
    | (refine Go.mk ?_; conv => whnf)
    | refine Need.go ?_ ?_
    | refine NilG.go (fun _ => ?_) (fun _ => ?_)
    | refine Br.dec (fun _ => ?_) (fun _ => ?_)
    | refine Br.go (fun _ => ?_) (fun _ => ?_)
    | refine draw_go hT hP mixed ?_
    | refine round_go hT hP ?_
  refine loop_go hT hP (X := Int × Int) (fun (i, o) => St.mk [.dead, .dead, .dead, I o, .dead, .dead, .cell (.ro (.int .i64) l), I l.length, I i, .dead, .dead, .dead, .dead, .dead, .dead, .dead, .dead] [])
    (fun (i, o) => ∃ k : Nat, i = k ∧ k ≤ l.length ∧ o = allF (l.take k)) (fun (i, _) => (l.length - i).toNat) (0, 2) (Le.mk [] [] rfl rfl rfl ?_) ?_ fun (i, o) hi => ?_
  rotate_right
  repeat' first
    | (refine Go.mk ?_; conv => whnf)
    | refine Need.go ?_ ?_
    | refine NilG.go (fun _ => ?_) (fun _ => ?_)
    | refine Br.dec (fun _ => ?_) (fun _ => ?_)
    | refine Br.go (fun _ => ?_) (fun _ => ?_)
    | refine draw_go hT hP mixed ?_
    | refine round_go hT hP ?_
  · obtain ⟨k, rfl, hk, rfl⟩ := hi
    omega
  · obtain ⟨k, rfl, hk, rfl⟩ := hi
    have e : IntKind.i64.wrap ((k : Int) + 1) = ((k + 1 : Nat) : Int) := by rw [w64 (by omega) (by omega)]; omega
    apply Exists.intro (_, _)
    refine And.intro ?_ (And.intro ?_ (Le.mk [] [] rfl rfl ?hh ?ht))
    case hh => exact rfl
    case ht => repeat' first | exact trivial | exact ⟨rfl, rfl⟩ | refine And.intro ?_ ?_
    · refine ⟨k + 1, e, by omega, ?_⟩
      have hlt : k < l.length := by omega
      show joinF (allF (l.take k)) (l.getD k 0) = _
      unfold allF
      rw [List.take_succ_eq_append_getElem hlt, List.foldl_append]
      simp [hlt]
    · show (l.length - IntKind.i64.wrap ((k : Int) + 1)).toNat < (l.length - (k : Int)).toNat
      rw [e]; omega
  · obtain ⟨k, rfl, hk, rfl⟩ := hi
    refine .mk [] [] _ rfl rfl rfl rfl rfl rfl (imm_int ?_)
    show allF (l.take k) = allF l
    rw [List.take_of_length_le (by omega)]
  · repeat' first | exact trivial | exact ⟨rfl, rfl⟩ | refine And.intro ?_ ?_
  · exact ⟨0, rfl, by omega, rfl⟩

def pullS : PSpec := ⟨[gi, gi], fun (a, b, _) => (none, I (pullF a b), [])⟩
theorem pull_ok : Good Try.prog 71 pullS.spec := by
  have hT := tab_ok (fs := [(103, pfitS.spec)]) tree_ok
  have hP : SpecsOk Try.prog (tab tree [(103, pfitS.spec)]) := specs_cons pfit_ok specs_nil
  refine pullS.good (fn := Try.f71) hT hP Try.func71 (by kernel_rfl) rfl fun (a b : Int) _ => ?_
  repeat' first
    | (refine Go.mk ?_; conv => whnf)
    | refine Need.go ?_ ?_
    | refine NilG.go (fun _ => ?_) (fun _ => ?_)
    | refine Br.dec (fun _ => ?_) (fun _ => ?_)
    | refine Br.go (fun _ => ?_) (fun _ => ?_)
    | refine draw_go hT hP mixed ?_
    | refine round_go hT hP ?_
  all_goals
    refine .mk [] [] _ rfl rfl rfl rfl rfl rfl (imm_int ?_)
    show _ = pullF a b
    simp_all [pullF]

def wiredS : PSpec := ⟨[gl, gi], fun (l, b, _) => (some (List.length l ≤ 4611686018427387904), I (wiredF l b), [])⟩
theorem wired_ok : Good Try.prog 72 wiredS.spec := by
  have hT := tab_ok (fs := [(103, pfitS.spec)]) tree_ok
  have hP : SpecsOk Try.prog (tab tree [(103, pfitS.spec)]) := specs_cons pfit_ok specs_nil
  refine wiredS.good (fn := Try.f72) hT hP Try.func72 (by kernel_rfl) rfl fun (l : List Int) (b : Int) hp => ?_
  have hp : l.length ≤ 4611686018427387904 := hp _ rfl
  repeat' first
    | (refine Go.mk ?_; conv => whnf)
    | refine Need.go ?_ ?_
    | refine NilG.go (fun _ => ?_) (fun _ => ?_)
    | refine Br.dec (fun _ => ?_) (fun _ => ?_)
    | refine Br.go (fun _ => ?_) (fun _ => ?_)
    | refine draw_go hT hP mixed ?_
    | refine round_go hT hP ?_
  refine loop_go hT hP (X := Int × Int) (fun (i, o) => St.mk [.dead, I o, .dead, .dead, .dead, .dead, .dead, .cell (.ro (.int .i64) l), I l.length, I i, .dead, .dead, .dead, .dead, .dead, .dead, .dead, .dead, .dead, .dead, .dead, .dead] [])
    (fun (i, o) => ∃ k : Nat, i = k ∧ k ≤ l.length ∧ (l.take k).any (fun x => decide (fitF x = 0)) = false ∧ o = if (l.take k).any (fun x => decide (fitF x = 3)) = true then 3 else b) (fun (i, _) => (l.length - i).toNat) (0, b) (Le.mk [] [] rfl rfl rfl ?_) ?_ fun (i, o) hi => ?_
  rotate_right
  repeat' first
    | (refine Go.mk ?_; conv => whnf)
    | refine Need.go ?_ ?_
    | refine NilG.go (fun _ => ?_) (fun _ => ?_)
    | refine Br.dec (fun _ => ?_) (fun _ => ?_)
    | refine Br.go (fun _ => ?_) (fun _ => ?_)
    | refine draw_go hT hP mixed ?_
    | refine round_go hT hP ?_
  · obtain ⟨k, rfl, hk, h0, rfl⟩ := hi
    omega
  · rename_i hz
    obtain ⟨k, rfl, hk, h0, rfl⟩ := hi
    refine .mk [] [] _ rfl rfl rfl rfl rfl rfl (imm_int ?_)
    show 0 = wiredF l b
    unfold wiredF
    have hlt : k < l.length := by omega
    have hz : fitF (l.getD k 0) = 0 := by simpa [dflt] using hz
    rw [if_pos]
    refine List.any_eq_true.2 ⟨l[k], List.getElem_mem hlt, ?_⟩
    simpa [hlt] using hz
  · rename_i hz h3
    obtain ⟨k, rfl, hk, h0, rfl⟩ := hi
    have e : IntKind.i64.wrap ((k : Int) + 1) = ((k + 1 : Nat) : Int) := by rw [w64 (by omega) (by omega)]; omega
    have hz : ¬ fitF (l.getD k 0) = 0 := by simpa [dflt] using hz
    have h3 : fitF (l.getD k 0) = 3 := by simpa [dflt] using h3
    apply Exists.intro (_, _)
    refine And.intro ?_ (And.intro ?_ (Le.mk [] [] rfl rfl ?hh ?ht))
    case hh => exact rfl
    case ht => repeat' first | exact trivial | exact ⟨rfl, rfl⟩ | refine And.intro ?_ ?_
    · have hlt : k < l.length := by omega
      refine ⟨k + 1, e, by omega, ?_, ?_⟩
      · rw [any_take l 0 _ hlt, h0]; simpa using hz
      · rw [any_take l 0 _ hlt, h3]; simp
    · show (l.length - IntKind.i64.wrap ((k : Int) + 1)).toNat < (l.length - (k : Int)).toNat
      rw [e]; omega
  · rename_i hz h3
    obtain ⟨k, rfl, hk, h0, rfl⟩ := hi
    have e : IntKind.i64.wrap ((k : Int) + 1) = ((k + 1 : Nat) : Int) := by rw [w64 (by omega) (by omega)]; omega
    have hz : ¬ fitF (l.getD k 0) = 0 := by simpa [dflt] using hz
    have h3 : ¬ fitF (l.getD k 0) = 3 := by simpa [dflt] using h3
    apply Exists.intro (_, _)
    refine And.intro ?_ (And.intro ?_ (Le.mk [] [] rfl rfl ?hh ?ht))
    case hh => exact rfl
    case ht => repeat' first | exact trivial | exact ⟨rfl, rfl⟩ | refine And.intro ?_ ?_
    · have hlt : k < l.length := by omega
      refine ⟨k + 1, e, by omega, ?_, ?_⟩
      · rw [any_take l 0 _ hlt, h0]; simpa using hz
      · rw [any_take l 0 _ hlt, decide_eq_false h3, Bool.or_false]
    · show (l.length - IntKind.i64.wrap ((k : Int) + 1)).toNat < (l.length - (k : Int)).toNat
      rw [e]; omega
  · obtain ⟨k, rfl, hk, h0, rfl⟩ := hi
    refine .mk [] [] _ rfl rfl rfl rfl rfl rfl (imm_int ?_)
    show fitF (if (l.take k).any (fun x => decide (fitF x = 3)) = true then 3 else b) = wiredF l b
    rw [List.take_of_length_le (by omega)] at h0 ⊢
    unfold wiredF
    rw [h0]
    split
    · simp; decide
    · simp
  · repeat' first | exact trivial | exact ⟨rfl, rfl⟩ | refine And.intro ?_ ?_
  · exact ⟨0, rfl, by omega, rfl, rfl⟩

def driveS : PSpec := ⟨[gi], fun (a, _) => (none, .tup [.c (bv (lowB a)), .c (bv (highB a))], [])⟩
theorem drive_ok : Good Try.prog 94 driveS.spec := by
  have hT := tab_ok (fs := []) tree_ok
  have hP : SpecsOk Try.prog (tab tree []) := specs_nil
  refine driveS.good (fn := Try.f94) hT hP Try.func94 (by kernel_rfl) rfl fun (a : Int) _ => ?_
  repeat' first
    | (refine Go.mk ?_; conv => whnf)
    | refine Need.go ?_ ?_
    | refine NilG.go (fun _ => ?_) (fun _ => ?_)
    | refine Br.dec (fun _ => ?_) (fun _ => ?_)
    | refine Br.go (fun _ => ?_) (fun _ => ?_)
    | refine draw_go hT hP mixed ?_
    | refine round_go hT hP ?_
  all_goals
    refine .mk [] [] _ rfl rfl rfl rfl rfl rfl (tup2_bool ?_ ?_)
    · show _ = lowB a
      simp_all [lowB] <;> omega
    · show _ = highB a
      simp_all [highB] <;> omega

def lineS : PSpec := ⟨[gl], fun (l, _) => (some (List.length l ≤ 4611686018427387904), I (lineF l), [])⟩
theorem line_ok : Good Try.prog 51 lineS.spec := by
  have hT := tab_ok (fs := [(94, driveS.spec)]) tree_ok
  have hP : SpecsOk Try.prog (tab tree [(94, driveS.spec)]) := specs_cons drive_ok specs_nil
  refine lineS.good (fn := Try.f51) hT hP Try.func51 (by kernel_rfl) rfl fun (l : List Int) hp => ?_
  have hp : l.length ≤ 4611686018427387904 := hp _ rfl
  repeat' first
    | (refine Go.mk ?_; conv => whnf)
    | refine Need.go ?_ ?_
    | refine NilG.go (fun _ => ?_) (fun _ => ?_)
    | refine Br.dec (fun _ => ?_) (fun _ => ?_)
    | refine Br.go (fun _ => ?_) (fun _ => ?_)
    | refine draw_go hT hP mixed ?_
    | refine round_go hT hP ?_
  refine loop_go hT hP (X := Int × Bool × Bool) (fun (i, x, y) => St.mk [.dead, .dead, .dead, .cell (bv x), .cell (bv y), .dead, .dead, .dead, .dead, .cell (.ro (.int .i64) l), I l.length, I i, .dead, .dead, .dead, .dead, .dead, .dead, .dead, .dead, .dead, .dead, .dead, .dead, .dead, .dead, .dead, .dead, .dead, .dead, .dead, .dead, .dead, .dead, .dead, .dead, .dead, .dead] [])
    (fun (i, x, y) => ∃ k : Nat, i = k ∧ k ≤ l.length ∧ x = (l.take k).any lowB ∧ y = (l.take k).any highB) (fun (i, _) => (l.length - i).toNat) (0, false, false) (Le.mk [] [] rfl rfl rfl ?_) ?_ fun (i, x, y) hi => ?_
  rotate_right
  repeat' first
    | (refine Go.mk ?_; conv => whnf)
    | refine Need.go ?_ ?_
    | refine NilG.go (fun _ => ?_) (fun _ => ?_)
    | refine Br.dec (fun _ => ?_) (fun _ => ?_)
    | refine Br.go (fun _ => ?_) (fun _ => ?_)
    | refine draw_go hT hP mixed ?_
    | refine round_go hT hP ?_
  · obtain ⟨k, rfl, hk, h0, h1⟩ := hi
    omega
  iterate 4
    · rename_i hx hy
      obtain ⟨k, rfl, hk, h0, h1⟩ := hi
      have e : IntKind.i64.wrap ((k : Int) + 1) = ((k + 1 : Nat) : Int) := by rw [w64 (by omega) (by omega)]; omega
      apply Exists.intro (_, _, _)
      refine And.intro ?_ (And.intro ?_ (Le.mk [] [] rfl rfl ?hh ?ht))
      case hh => exact rfl
      case ht => repeat' first | exact trivial | exact ⟨rfl, rfl⟩ | refine And.intro ?_ ?_
      · have hlt : k < l.length := by omega
        refine ⟨k + 1, e, by omega, ?_, ?_⟩
        · rw [any_take l 0 _ hlt, ← h0, hx]; rfl
        · rw [any_take l 0 _ hlt, ← h1, hy]; rfl
      · show (l.length - IntKind.i64.wrap ((k : Int) + 1)).toNat < (l.length - (k : Int)).toNat
        rw [e]; omega
  rotate_right 2
  · repeat' first | exact trivial | exact ⟨rfl, rfl⟩ | refine And.intro ?_ ?_
  · exact ⟨0, rfl, by omega, rfl, rfl⟩
  all_goals
    obtain ⟨k, rfl, hk, h0, h1⟩ := hi
    rw [List.take_of_length_le (by omega)] at h0 h1
    refine .mk [] [] _ rfl rfl rfl rfl rfl rfl (imm_int ?_)
    show _ = codeF (l.any lowB) (l.any highB)
    rw [← h0, ← h1]
    clear h0 h1 hp hT hP
    cases x <;> cases y <;> first | rfl | (exfalso; first | (rename_i h; cases h; done) | (rename_i h _; cases h; done) | (rename_i h _ _; cases h; done) | (rename_i h _ _ _; cases h; done))

def idxF (p : Int → Bool) : List Int → Int → Int
  | [], _ => -1
  | a :: l, i => if p a = true then i else idxF p l (i + 1)
theorem idxF_any (p : Int → Bool) : ∀ (l : List Int) (i : Int), 0 ≤ i → decide (idxF p l i ≥ 0) = l.any p
  | [], i, h => by simp [idxF]
  | a :: l, i, h => by
    unfold idxF
    rw [List.any_cons]
    cases hp : p a with
    | true => simpa using h
    | false => simpa using idxF_any p l (i + 1) (by omega)
theorem idxF_step (p : Int → Bool) {l : List Int} {k : Nat} (h : k < l.length) : idxF p (l.drop k) k = if p (l.getD k 0) = true then (k : Int) else idxF p (l.drop (k + 1)) ((k : Int) + 1) := by
  rw [List.drop_eq_getElem_cons h, idxF]
  simp [h]

def clashS : PSpec := ⟨[gi], fun (a, _) => (none, .cell (bv (decide (fitF a = 3))), [])⟩
theorem clash_ok : Good Try.prog 68 clashS.spec := by
  have hT := tab_ok (fs := [(51, lineS.spec)]) tree_ok
  have hP : SpecsOk Try.prog (tab tree [(51, lineS.spec)]) := specs_cons line_ok specs_nil
  refine clashS.good (fn := Try.f68) hT hP Try.func68 (by kernel_rfl) rfl fun (a : Int) _ => ?_
  repeat' first
    | (refine Go.mk ?_; conv => whnf)
    | refine Need.go ?_ ?_
    | refine NilG.go (fun _ => ?_) (fun _ => ?_)
    | refine Br.dec (fun _ => ?_) (fun _ => ?_)
    | refine Br.go (fun _ => ?_) (fun _ => ?_)
    | refine draw_go hT hP mixed ?_
    | refine round_go hT hP ?_
  · exact (by decide : (1 : Nat) ≤ 4611686018427387904)
  · refine .mk [0] [] _ rfl rfl rfl rfl rfl rfl (imm_bool ?_)
    show (lineF [a] == 3) = _
    rw [line_one]; rfl

def ifnS : WSpec := ⟨List Int, fun l => [.c (.ro (.int .i64) l), .c (.fn 68 [])], fun _ => [], fun a b => (match a, b with | [.c (.ro (.int .i64) l), .c (.fn 68 [])], [] => some l | _, _ => none),
  fun l => (some (List.length l ≤ 4611686018427387904), I (idxF (fun a => decide (fitF a = 3)) l 0), [], [])⟩
theorem ifn_ok : Good Try.prog 102 ifnS.spec := by
  have hT := tab_ok (fs := [(68, clashS.spec)]) tree_ok
  have hP : SpecsOk Try.prog (tab tree [(68, clashS.spec)]) := specs_cons clash_ok specs_nil
  refine ifnS.good (fn := Try.f102) hT hP Try.func102 (by kernel_rfl) rfl ?_ fun (l : List Int) hp => ?_
  · intro a b x h
    simp only [ifnS] at h
    split at h
    · injection h with h; subst h; exact ⟨rfl, rfl⟩
    · cases h
  have hp : l.length ≤ 4611686018427387904 := hp _ rfl
  repeat' first
    | (refine Go.mk ?_; conv => whnf)
    | refine Need.go ?_ ?_
    | refine NilG.go (fun _ => ?_) (fun _ => ?_)
    | refine Br.dec (fun _ => ?_) (fun _ => ?_)
    | refine Br.go (fun _ => ?_) (fun _ => ?_)
    | refine draw_go hT hP mixed ?_
    | refine round_go hT hP ?_
  refine loop_go hT hP (X := Int) (fun i => St.mk [.cell (.ro (.int .i64) l), .cell (.fn 68 []), .dead, .dead, .dead, .dead, .dead, I l.length, I i, .dead, .dead, .dead, .dead, .dead, .dead, .dead, .dead, .dead, .dead] [])
    (fun i => ∃ k : Nat, i = k ∧ k ≤ l.length ∧ idxF (fun a => decide (fitF a = 3)) l 0 = idxF (fun a => decide (fitF a = 3)) (l.drop k) k) (fun i => (l.length - i).toNat) 0 (Le.mk [] [] rfl rfl rfl ?_) ?_ fun i hi => ?_
  rotate_right
  repeat' first
    | (refine Go.mk ?_; conv => whnf)
    | refine Need.go ?_ ?_
    | refine NilG.go (fun _ => ?_) (fun _ => ?_)
    | refine Br.dec (fun _ => ?_) (fun _ => ?_)
    | refine Br.go (fun _ => ?_) (fun _ => ?_)
    | refine draw_go hT hP mixed ?_
    | refine round_go hT hP ?_
  · obtain ⟨k, rfl, hk, h0⟩ := hi
    omega
  · rename_i hz
    obtain ⟨k, rfl, hk, h0⟩ := hi
    have hlt : k < l.length := by omega
    have hz : fitF (l.getD k 0) = 3 := hz
    refine .mk [] [] _ rfl rfl rfl rfl rfl rfl (imm_int ?_)
    show (k : Int) = idxF (fun a => decide (fitF a = 3)) l 0
    rw [h0, idxF_step _ hlt, if_pos (decide_eq_true hz)]
  · rename_i hz
    obtain ⟨k, rfl, hk, h0⟩ := hi
    have hlt : k < l.length := by omega
    have hz : ¬ fitF (l.getD k 0) = 3 := hz
    have e : IntKind.i64.wrap ((k : Int) + 1) = ((k + 1 : Nat) : Int) := by rw [w64 (by omega) (by omega)]; omega
    apply Exists.intro _
    refine And.intro ?_ (And.intro ?_ (Le.mk [] [] rfl rfl ?hh ?ht))
    case hh => exact rfl
    case ht => repeat' first | exact trivial | exact ⟨rfl, rfl⟩ | refine And.intro ?_ ?_
    · refine ⟨k + 1, e, by omega, ?_⟩
      rw [h0, idxF_step _ hlt, if_neg (by simpa using hz)]
      rfl
    · show (l.length - IntKind.i64.wrap ((k : Int) + 1)).toNat < (l.length - (k : Int)).toNat
      rw [e]; omega
  · obtain ⟨k, rfl, hk, h0⟩ := hi
    refine .mk [] [] _ rfl rfl rfl rfl rfl rfl (imm_int ?_)
    show -1 = idxF (fun a => decide (fitF a = 3)) l 0
    rw [h0, List.drop_of_length_le (by omega)]; rfl
  · repeat' first | exact trivial | exact ⟨rfl, rfl⟩ | refine And.intro ?_ ?_
  · exact ⟨0, rfl, by omega, rfl⟩

def cfnS : WSpec := ⟨List Int, fun l => [.c (.ro (.int .i64) l), .c (.fn 68 [])], fun _ => [], fun a b => (match a, b with | [.c (.ro (.int .i64) l), .c (.fn 68 [])], [] => some l | _, _ => none),
  fun l => (some (List.length l ≤ 4611686018427387904), .cell (bv (l.any fun a => decide (fitF a = 3))), [], [])⟩
theorem cfn_ok : Good Try.prog 67 cfnS.spec := by
  have hT := tab_ok (fs := [(102, ifnS.spec)]) tree_ok
  have hP : SpecsOk Try.prog (tab tree [(102, ifnS.spec)]) := specs_cons ifn_ok specs_nil
  refine cfnS.good (fn := Try.f67) hT hP Try.func67 (by kernel_rfl) rfl ?_ fun (l : List Int) hp => ?_
  · intro a b x h
    simp only [cfnS] at h
    split at h
    · injection h with h; subst h; exact ⟨rfl, rfl⟩
    · cases h
  have hp : l.length ≤ 4611686018427387904 := hp _ rfl
  repeat' first
    | (refine Go.mk ?_; conv => whnf)
    | refine Need.go ?_ ?_
    | refine NilG.go (fun _ => ?_) (fun _ => ?_)
    | refine Br.dec (fun _ => ?_) (fun _ => ?_)
    | refine Br.go (fun _ => ?_) (fun _ => ?_)
    | refine draw_go hT hP mixed ?_
    | refine round_go hT hP ?_
  · exact hp
  · refine .mk [] [] _ rfl rfl rfl rfl rfl rfl (imm_bool ?_)
    exact idxF_any _ l 0 (by omega)

def indexS : PSpec := ⟨[gl, gi], fun (l, v, _) => (some (List.length l ≤ 4611686018427387904), I (idxF (fun a => decide (v = a)) l 0), [])⟩
theorem index_ok : Good Try.prog 100 indexS.spec := by
  have hT := tab_ok (fs := []) tree_ok
  have hP : SpecsOk Try.prog (tab tree []) := specs_nil
  refine indexS.good (fn := Try.f100) hT hP Try.func100 (by kernel_rfl) rfl fun (l : List Int) (v : Int) hp => ?_
  have hp : l.length ≤ 4611686018427387904 := hp _ rfl
  repeat' first
    | (refine Go.mk ?_; conv => whnf)
    | refine Need.go ?_ ?_
    | refine NilG.go (fun _ => ?_) (fun _ => ?_)
    | refine Br.dec (fun _ => ?_) (fun _ => ?_)
    | refine Br.go (fun _ => ?_) (fun _ => ?_)
    | refine draw_go hT hP mixed ?_
    | refine round_go hT hP ?_
  refine loop_go hT hP (X := Int) (fun i => St.mk [.cell (.ro (.int .i64) l), I v, .dead, .dead, .dead, .dead, .dead, I l.length, I i, .dead, .dead, .dead, .dead, .dead, .dead, .dead, .dead, .dead, .dead] [])
    (fun i => ∃ k : Nat, i = k ∧ k ≤ l.length ∧ idxF (fun a => decide (v = a)) l 0 = idxF (fun a => decide (v = a)) (l.drop k) k) (fun i => (l.length - i).toNat) 0 (Le.mk [] [] rfl rfl rfl ?_) ?_ fun i hi => ?_
  rotate_right
  repeat' first
    | (refine Go.mk ?_; conv => whnf)
    | refine Need.go ?_ ?_
    | refine NilG.go (fun _ => ?_) (fun _ => ?_)
    | refine Br.dec (fun _ => ?_) (fun _ => ?_)
    | refine Br.go (fun _ => ?_) (fun _ => ?_)
    | refine draw_go hT hP mixed ?_
    | refine round_go hT hP ?_
  · obtain ⟨k, rfl, hk, h0⟩ := hi
    omega
  · rename_i hz
    obtain ⟨k, rfl, hk, h0⟩ := hi
    have hlt : k < l.length := by omega
    have hz : v = l.getD k 0 := by simpa [dflt] using hz
    refine .mk [] [] _ rfl rfl rfl rfl rfl rfl (imm_int ?_)
    show (k : Int) = idxF (fun a => decide (v = a)) l 0
    rw [h0, idxF_step _ hlt, if_pos (decide_eq_true hz)]
  · rename_i hz
    obtain ⟨k, rfl, hk, h0⟩ := hi
    have hlt : k < l.length := by omega
    have hz : ¬ v = l.getD k 0 := by simpa [dflt] using hz
    have e : IntKind.i64.wrap ((k : Int) + 1) = ((k + 1 : Nat) : Int) := by rw [w64 (by omega) (by omega)]; omega
    apply Exists.intro _
    refine And.intro ?_ (And.intro ?_ (Le.mk [] [] rfl rfl ?hh ?ht))
    case hh => exact rfl
    case ht => repeat' first | exact trivial | exact ⟨rfl, rfl⟩ | refine And.intro ?_ ?_
    · refine ⟨k + 1, e, by omega, ?_⟩
      rw [h0, idxF_step _ hlt, if_neg (by simpa using hz)]
      rfl
    · show (l.length - IntKind.i64.wrap ((k : Int) + 1)).toNat < (l.length - (k : Int)).toNat
      rw [e]; omega
  · obtain ⟨k, rfl, hk, h0⟩ := hi
    refine .mk [] [] _ rfl rfl rfl rfl rfl rfl (imm_int ?_)
    show -1 = idxF (fun a => decide (v = a)) l 0
    rw [h0, List.drop_of_length_le (by omega)]; rfl
  · repeat' first | exact trivial | exact ⟨rfl, rfl⟩ | refine And.intro ?_ ?_
  · exact ⟨0, rfl, by omega, rfl⟩

def containsS : PSpec := ⟨[gl, gi], fun (l, v, _) => (some (List.length l ≤ 4611686018427387904), .cell (bv (l.any fun a => decide (v = a))), [])⟩
theorem contains_ok : Good Try.prog 64 containsS.spec := by
  have hT := tab_ok (fs := [(100, indexS.spec)]) tree_ok
  have hP : SpecsOk Try.prog (tab tree [(100, indexS.spec)]) := specs_cons index_ok specs_nil
  refine containsS.good (fn := Try.f64) hT hP Try.func64 (by kernel_rfl) rfl fun (l : List Int) (v : Int) hp => ?_
  have hp : l.length ≤ 4611686018427387904 := hp _ rfl
  repeat' first
    | (refine Go.mk ?_; conv => whnf)
    | refine Need.go ?_ ?_
    | refine NilG.go (fun _ => ?_) (fun _ => ?_)
    | refine Br.dec (fun _ => ?_) (fun _ => ?_)
    | refine Br.go (fun _ => ?_) (fun _ => ?_)
    | refine draw_go hT hP mixed ?_
    | refine round_go hT hP ?_
  · exact hp
  · refine .mk [] [] _ rfl rfl rfl rfl rfl rfl (imm_bool ?_)
    exact idxF_any _ l 0 (by omega)

def linesS : PSpec := ⟨[], fun _ => (none, .cell (bv true), [])⟩
theorem lines_ok : Good Try.prog 50 linesS.spec := by
  have hT := tab_ok (fs := [(69, joinS.spec)]) tree_ok
  have hP : SpecsOk Try.prog (tab tree [(69, joinS.spec)]) := specs_cons join_ok specs_nil
  refine linesS.good (fn := Try.f50) hT hP Try.func50 (by kernel_rfl) rfl fun _ => ?_
  repeat' first
    | (refine Go.mk ?_; conv => whnf)
    | refine Need.go ?_ ?_
    | refine NilG.go (fun _ => ?_) (fun _ => ?_)
    | refine Br.dec (fun _ => ?_) (fun _ => ?_)
    | refine Br.go (fun _ => ?_) (fun _ => ?_)
    | refine draw_go hT hP mixed ?_
    | refine round_go hT hP ?_
  all_goals first
    | (refine .mk [] [] _ rfl rfl rfl rfl rfl rfl (imm_bool ?_); decide)
    | (rename_i h; exact absurd h (by decide))

end Go.Proofs.Ytjggjnjmnmdgaaa
