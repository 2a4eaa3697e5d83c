/- The chip that counts down: forming, cycles. -/
import Derived.Test.YtjggjnjmnmdgaaaPort
import Derived.Test.YtjggjnjmnmdgaaaTimerLaw
namespace Go.Proofs.Ytjggjnjmnmdgaaa
open Go.Fw
set_option linter.unusedVariables false
set_option linter.unusedSimpArgs false
set_option maxRecDepth 100000

theorem blk_eq {l l' : List Int} (h : l = l') : [some (Blk.arr (.int .i64) l)] = [some (Blk.arr (.int .i64) l')] := by rw [h]
abbrev tA (N : List Int) : Int := N.getD 0 0 % 65536
abbrev tB (N : List Int) : Int := N.getD 1 0 % 65536
abbrev tC (N : List Int) : Int := N.getD 2 0 % 8
abbrev tF (N : List Int) : Int := N.getD 3 0 % 2
theorem tR (N : List Int) : (0 ≤ tA N ∧ tA N < 65536) ∧ (0 ≤ tB N ∧ tB N < 65536) ∧ (0 ≤ tC N ∧ tC N < 8) ∧ (0 ≤ tF N ∧ tF N < 2) := by
  unfold tA tB tC tF; omega
theorem timN_eq (N : List Int) : timN N = [tA N, tB N, tC N, tF N] := rfl
def timC : Cv := (ByteArray.empty, 3, 0, 0, [])

def tformedS : PSpec := ⟨[gC, gD], fun (c, d, _) => (some (c = timC), devR, [.arr (.int .i64) (timN d.1)])⟩
theorem tformed_ok : Good Try.prog 55 tformedS.spec := by
  have hT := tab_ok (fs := [(95, formS.spec)]) tree_ok
  have hP : SpecsOk Try.prog (tab tree [(95, formS.spec)]) := specs_cons form_ok specs_nil
  refine tformedS.good (fn := Try.f55) hT hP Try.func55 (by kernel_rfl) rfl fun (c : Cv) (d : Dv) hp => ?_
  have hp : c = timC := hp _ rfl
  subst hp
  obtain ⟨N, M⟩ := d
  repeat' first
    | (refine Go.mk ?_; conv => whnf)
    | refine Need.go ?_ ?_
    | refine NilG.go (fun _ => ?_) (fun _ => ?_)
    | refine Br.dec (fun _ => ?_) (fun _ => ?_)
    | refine Br.go (fun _ => ?_) (fun _ => ?_)
    | refine draw_go hT hP mixed ?_
    | refine round_go hT hP ?_
  · exact (by decide : ([65536, 65536, 8, 2] : List Int).length ≤ 1000 ∧ ∀ m ∈ ([65536, 65536, 8, 2] : List Int), 0 < m ∧ m ≤ 4611686018427387904)
  · exact .mk [] [5] _ rfl rfl rfl rfl rfl rfl rfl

def tfitS : PSpec := ⟨[gD], fun (d, _) => (none, .cell (.own 0), [.arr (.int .i64) (timN d.1)])⟩
theorem tfit_ok : Good Try.prog 97 tfitS.spec := by
  have hT := tab_ok (fs := [(33, lowM.spec)]) tree_ok
  have hP : SpecsOk Try.prog (tab tree [(33, lowM.spec)]) := specs_cons lowM_ok specs_nil
  refine tfitS.good (fn := Try.f97) hT hP Try.func97 (by kernel_rfl) rfl fun (d : Dv) _ => ?_
  obtain ⟨N, M⟩ := d
  repeat' first
    | (refine Go.mk ?_; conv => whnf)
    | refine Need.go ?_ ?_
    | refine NilG.go (fun _ => ?_) (fun _ => ?_)
    | refine Br.dec (fun _ => ?_) (fun _ => ?_)
    | refine Br.go (fun _ => ?_) (fun _ => ?_)
    | refine draw_go hT hP mixed ?_
    | refine round_go hT hP ?_
  all_goals first
    | exact of_decide_eq_true rfl
    | exact .mk [] [1] _ rfl rfl rfl rfl rfl rfl rfl

def tnewS : PSpec := ⟨[], fun _ => (none, devR, [.arr (.int .i64) [0, 0, 0, 0]])⟩
theorem tnew_ok : Good Try.prog 76 tnewS.spec := by
  have hT := tab_ok (fs := []) tree_ok
  have hP : SpecsOk Try.prog (tab tree []) := specs_nil
  refine tnewS.good (fn := Try.f76) hT hP Try.func76 (by kernel_rfl) rfl fun _ => ?_
  repeat' first
    | (refine Go.mk ?_; conv => whnf)
    | refine Need.go ?_ ?_
    | refine NilG.go (fun _ => ?_) (fun _ => ?_)
    | refine Br.dec (fun _ => ?_) (fun _ => ?_)
    | refine Br.go (fun _ => ?_) (fun _ => ?_)
    | refine draw_go hT hP mixed ?_
    | refine round_go hT hP ?_
  all_goals first
    | exact of_decide_eq_true rfl
    | exact .mk [] [1] _ rfl rfl rfl rfl rfl rfl rfl

def tickedS : PSpec := ⟨[gC, gD], fun (c, d, _) => (some (c = timC), devR, [.arr (.int .i64) (tickT (timN d.1))])⟩
theorem ticked_ok : Good Try.prog 56 tickedS.spec := by
  have hT := tab_ok (fs := [(55, tformedS.spec)]) tree_ok
  have hP : SpecsOk Try.prog (tab tree [(55, tformedS.spec)]) := specs_cons tformed_ok specs_nil
  refine tickedS.good (fn := Try.f56) hT hP Try.func56 (by kernel_rfl) rfl fun (c : Cv) (d : Dv) hp => ?_
  have hp : c = timC := hp _ rfl
  subst hp
  obtain ⟨N, M⟩ := d
  obtain ⟨rA, rB, rC, rF⟩ := tR N
  repeat' first
    | (refine Go.mk ?_; conv => whnf)
    | refine Need.go ?_ ?_
    | refine NilG.go (fun _ => ?_) (fun _ => ?_)
    | refine Br.dec (fun _ => ?_) (fun _ => ?_)
    | refine Br.go (fun _ => ?_) (fun _ => ?_)
    | refine draw_go hT hP mixed ?_
    | refine round_go hT hP ?_
  all_goals first
    | exact rfl
    | exact of_decide_eq_true rfl
    | skip
  · rename_i h
    have h : Int.tmod (tC N) 2 = 0 := h
    refine .mk [] [3] _ rfl rfl rfl rfl rfl (blk_eq (l := timN N) ?_) rfl
    rw [timN_eq, tickT, if_pos]
    rw [Int.tmod_eq_emod_of_nonneg (by omega)] at h; exact h
  · rename_i h h1
    have h : ¬ Int.tmod (tC N) 2 = 0 := h
    have h1 : tA N > 0 := h1
    rw [Int.tmod_eq_emod_of_nonneg (by omega)] at h
    refine .mk [] [3] _ rfl rfl rfl rfl rfl (blk_eq (l := [IntKind.i64.wrap (tA N - 1), tB N, tC N, tF N]) ?_) rfl
    show _ = tickT (timN N)
    rw [timN_eq, tickT, if_neg h, if_pos h1, w64 (by omega) (by omega)]
  · rename_i h h1 h2
    have h : ¬ Int.tmod (tC N) 2 = 0 := h
    have h1 : ¬ tA N > 0 := h1
    have h2 : Int.tmod (IntKind.i64.wrap (Int.tdiv (tC N) 2)) 2 = 1 := h2
    rw [Int.tmod_eq_emod_of_nonneg (by omega)] at h
    rw [Int.tdiv_eq_ediv_of_nonneg (by omega), w64 (by omega) (by omega), Int.tmod_eq_emod_of_nonneg (by omega)] at h2
    refine .mk [] [3] _ rfl rfl rfl rfl rfl (blk_eq (l := [tB N, tB N, tC N, 1]) ?_) rfl
    show _ = tickT (timN N)
    rw [timN_eq, tickT, if_neg h, if_neg h1, if_pos h2]
  · rename_i h h1 h2
    have h : ¬ Int.tmod (tC N) 2 = 0 := h
    have h1 : ¬ tA N > 0 := h1
    have h2 : ¬ Int.tmod (IntKind.i64.wrap (Int.tdiv (tC N) 2)) 2 = 1 := h2
    rw [Int.tmod_eq_emod_of_nonneg (by omega)] at h
    rw [Int.tdiv_eq_ediv_of_nonneg (by omega), w64 (by omega) (by omega), Int.tmod_eq_emod_of_nonneg (by omega)] at h2
    refine .mk [] [3] _ rfl rfl rfl rfl rfl (blk_eq (l := [tA N, tB N, IntKind.i64.wrap (tC N - 1), 1]) ?_) rfl
    show _ = tickT (timN N)
    rw [timN_eq, tickT, if_neg h, if_neg h1, if_neg h2, w64 (x := tC N - 1) (by omega) (by omega)]

def tskipS : PSpec := ⟨[gD, gi], fun (d, k, _) => (some (k ≤ 4611686018427387904), devR, [.arr (.int .i64) (iterT k.toNat (timN d.1))])⟩
theorem tskip_ok : Good Try.prog 59 tskipS.spec := by
  have hT := tab_ok (fs := [(97, tfitS.spec)]) tree_ok
  have hP : SpecsOk Try.prog (tab tree [(97, tfitS.spec)]) := specs_cons tfit_ok specs_nil
  refine tskipS.good (fn := Try.f59) hT hP Try.func59 (by kernel_rfl) rfl fun (d : Dv) (k : Int) hp => ?_
  have hp : k ≤ 4611686018427387904 := hp _ rfl
  obtain ⟨N, M⟩ := d
  obtain ⟨rA, rB, rC, rF⟩ := tR N
  repeat' first
    | (refine Go.mk ?_; conv => whnf)
    | refine Need.go ?_ ?_
    | refine NilG.go (fun _ => ?_) (fun _ => ?_)
    | refine Br.dec (fun _ => ?_) (fun _ => ?_)
    | refine Br.go (fun _ => ?_) (fun _ => ?_)
    | refine draw_go hT hP mixed ?_
    | refine round_go hT hP ?_
  all_goals first
    | exact rfl
    | exact of_decide_eq_true rfl
    | skip
  all_goals obtain ⟨c1, c2, c4, c3⟩ := ctl (c := tC N) (by omega) (by omega)
  · rename_i h
    refine .mk [] [2] _ rfl rfl rfl rfl rfl (blk_eq (l := timN N) ?_) rfl
    show _ = iterT k.toNat (timN N)
    have : k.toNat = 0 := by omega
    rw [this]; rfl
  · rename_i h0 h
    have h : land .i64 (tC N) 1 = 0 := h
    refine .mk [] [2] _ rfl rfl rfl rfl rfl (blk_eq (l := timN N) ?_) rfl
    show _ = iterT k.toNat (timN N)
    rw [h] at c1
    rw [timN_eq, it_off (of_decide_eq_true c1.symm)]
  · rename_i h0 h h1
    have h : ¬ land .i64 (tC N) 1 = 0 := h
    have h1 : k ≤ tA N := h1
    have hc : ¬ tC N % 2 = 0 := by
      intro e; rw [decide_eq_true e] at c1; exact h (by simpa using c1)
    refine .mk [] [2] _ rfl rfl rfl rfl rfl (blk_eq (l := [IntKind.i64.wrap (tA N - k), tB N, tC N, tF N]) ?_) rfl
    show _ = iterT k.toNat (timN N)
    rw [timN_eq, it_run hc _ _ (by omega), w64 (by omega) (by omega)]
    have : ((k.toNat : Nat) : Int) = k := by omega
    rw [this]
  · show IntKind.i64.wrap (tB N + 1) ≠ 0
    rw [w64 (by omega) (by omega)]
    omega
  · rename_i h0 h h1 h2
    have h : ¬ land .i64 (tC N) 1 = 0 := h
    have h1 : ¬ k ≤ tA N := h1
    have h2 : (land .i64 (tC N) 2 != 0) = true := h2
    have hc : ¬ tC N % 2 = 0 := by
      intro e; rw [decide_eq_true e] at c1; exact h (by simpa using c1)
    rw [h2] at c2
    refine .mk [] [2] _ rfl rfl rfl rfl rfl (blk_eq (l := [IntKind.i64.wrap (tB N - Int.tmod (IntKind.i64.wrap (IntKind.i64.wrap (k - tA N) - 1)) (IntKind.i64.wrap (tB N + 1))), tB N, tC N, 1]) ?_) rfl
    show _ = iterT k.toNat (timN N)
    rw [timN_eq, it_again hc (of_decide_eq_true c2.symm) (by omega) (by omega) _ (by omega)]
    have e : ((k.toNat : Nat) : Int) = k := by omega
    rw [e, w64 (x := k - tA N) (by omega) (by omega), w64 (x := k - tA N - 1) (by omega) (by omega), w64 (x := tB N + 1) (by omega) (by omega), Int.tmod_eq_emod_of_nonneg (by omega)]
    have h5 := Int.emod_nonneg (k - tA N - 1) (show tB N + 1 ≠ 0 by omega)
    have h6 := Int.emod_lt_of_pos (k - tA N - 1) (show 0 < tB N + 1 by omega)
    rw [w64 (by omega) (by omega)]
  · rename_i h0 h h1 h2
    have h : ¬ land .i64 (tC N) 1 = 0 := h
    have h1 : ¬ k ≤ tA N := h1
    have h2 : (land .i64 (tC N) 2 != 0) = false := h2
    have hc : ¬ tC N % 2 = 0 := by
      intro e; rw [decide_eq_true e] at c1; exact h (by simpa using c1)
    rw [h2] at c2
    refine .mk [] [2] _ rfl rfl rfl rfl rfl (blk_eq (l := [0, tB N, landNot .i64 (tC N) 1, 1]) ?_) rfl
    show _ = iterT k.toNat (timN N)
    rw [timN_eq, it_once hc (of_decide_eq_false c2.symm) (by omega) _ (by omega), c3 hc]

def ttickS : PSpec := ⟨[gD], fun (d, _) => (none, devR, [.arr (.int .i64) (tickT (timN d.1))])⟩
theorem ttick_ok : Good Try.prog 58 ttickS.spec := by
  have hT := tab_ok (fs := [(59, tskipS.spec)]) tree_ok
  have hP : SpecsOk Try.prog (tab tree [(59, tskipS.spec)]) := specs_cons tskip_ok specs_nil
  refine ttickS.good (fn := Try.f58) hT hP Try.func58 (by kernel_rfl) rfl fun (d : Dv) _ => ?_
  obtain ⟨N, M⟩ := d
  repeat' first
    | (refine Go.mk ?_; conv => whnf)
    | refine Need.go ?_ ?_
    | refine NilG.go (fun _ => ?_) (fun _ => ?_)
    | refine Br.dec (fun _ => ?_) (fun _ => ?_)
    | refine Br.go (fun _ => ?_) (fun _ => ?_)
    | refine draw_go hT hP mixed ?_
    | refine round_go hT hP ?_
  · exact of_decide_eq_true rfl
  · exact .mk [] [2] _ rfl rfl rfl rfl rfl rfl rfl

end Go.Proofs.Ytjggjnjmnmdgaaa
