/- bakelaw1.DriveDisks answers true, whatever it is given. -/
import Derived.Test.YtjggjnjmnmdgaaaDrive
import Derived.Test.YtjggjnjmnmdgaaaFw33
namespace Go.Proofs.Ytjggjnjmnmdgaaa
open Go.Fw
set_option linter.unusedVariables false
set_option linter.unusedSimpArgs false
set_option maxRecDepth 100000

def dfresh0S : PSpec := ⟨[gC], fun (c, _) => (some (c.2.1 = 8 ∧ List.length c.2.2.2.2 ≤ 140737488355328 ∧ qF c.2.2.2.2 = 0), .agg [.own 0, .imm (.slice none 0 0)], [.arr (.int .i64) (dN [] (qF c.2.2.2.2))])⟩
theorem dfresh0_ok : Good Try.prog 41 dfresh0S.spec := by
  have hT := tab_ok (fs := [(55, dformed0S.spec)]) tree_ok
  have hP : SpecsOk Try.prog (tab tree [(55, dformed0S.spec)]) := specs_cons dformed0_ok specs_nil
  refine dfresh0S.good (fn := Try.f41) hT hP Try.func41 (by kernel_rfl) rfl fun (c : Cv) hp => ?_
  obtain ⟨cn, ck, cb, cs, cd⟩ := c
  obtain ⟨rfl, hl, h0⟩ : ck = 8 ∧ cd.length ≤ 140737488355328 ∧ qF cd = 0 := hp _ rfl
  repeat' first
    | (refine Go.mk ?_; conv => whnf)
    | refine Need.go ?_ ?_
    | refine NilG.go (fun _ => ?_) (fun _ => ?_)
    | refine Br.dec (fun _ => ?_) (fun _ => ?_)
    | refine Br.go (fun _ => ?_) (fun _ => ?_)
    | refine draw_go hT hP mixed ?_
    | refine round_go hT hP ?_
  · exact ⟨rfl, hl, h0⟩
  · exact .mk [] [2] _ rfl rfl rfl rfl rfl rfl rfl
def dfresh1S : PSpec := ⟨[gC], fun (c, _) => (some (c.2.1 = 8 ∧ List.length c.2.2.2.2 ≤ 140737488355328 ∧ 0 < qF c.2.2.2.2), .agg [.own 0, .own 1], [.arr (.int .i64) (dN [] (qF c.2.2.2.2)), .arr (.int .u8) (dM c.2.2.2.2)])⟩
theorem dfresh1_ok : Good Try.prog 41 dfresh1S.spec := by
  have hT := tab_ok (fs := [(55, dformed1S.spec)]) tree_ok
  have hP : SpecsOk Try.prog (tab tree [(55, dformed1S.spec)]) := specs_cons dformed1_ok specs_nil
  refine dfresh1S.good (fn := Try.f41) hT hP Try.func41 (by kernel_rfl) rfl fun (c : Cv) hp => ?_
  obtain ⟨cn, ck, cb, cs, cd⟩ := c
  obtain ⟨rfl, hl, h0⟩ : ck = 8 ∧ cd.length ≤ 140737488355328 ∧ 0 < qF cd := hp _ rfl
  repeat' first
    | (refine Go.mk ?_; conv => whnf)
    | refine Need.go ?_ ?_
    | refine NilG.go (fun _ => ?_) (fun _ => ?_)
    | refine Br.dec (fun _ => ?_) (fun _ => ?_)
    | refine Br.go (fun _ => ?_) (fun _ => ?_)
    | refine draw_go hT hP mixed ?_
    | refine round_go hT hP ?_
  · exact ⟨rfl, hl, h0⟩
  · exact .mk [] [2, 3] _ rfl rfl rfl rfl rfl rfl rfl

theorem dN_nil (q : Nat) : dN [] q = [0, 0, 0, 0, 0, 0, 0, 0, 0, 0] := by
  rw [dN_if]
  have e : (([] : List Int).getD 0 0 % 256) = 0 := rfl
  rw [e, if_neg (by omega)]
  rfl
def dd0S : PSpec := ⟨[gb], fun (b, _) => (some (List.length b ≤ 140737488355328 ∧ qF b = 0), .cell (bv true), [])⟩
theorem dd0_ok : Good Try.prog 11 dd0S.spec := by
  have hT := tab_ok (fs := [(60, drivesS.spec), (39, sameS.spec), (61, dnewS.spec), (41, dfresh0S.spec)]) tree_ok
  have hP : SpecsOk Try.prog (tab tree [(60, drivesS.spec), (39, sameS.spec), (61, dnewS.spec), (41, dfresh0S.spec)]) := specs_cons drives_ok (specs_cons same_ok (specs_cons dnew_ok (specs_cons dfresh0_ok specs_nil)))
  refine dd0S.good (fn := Try.f11) hT hP Try.func11 (by kernel_rfl) rfl fun (b : List Int) hp => ?_
  obtain ⟨hl, h0⟩ : b.length ≤ 140737488355328 ∧ qF b = 0 := hp _ rfl
  have hd : dM b = [] := by unfold dM; rw [h0]; rfl
  repeat' first
    | (refine Go.mk ?_; conv => whnf)
    | refine Need.go ?_ ?_
    | refine NilG.go (fun _ => ?_) (fun _ => ?_)
    | refine Br.dec (fun _ => ?_) (fun _ => ?_)
    | refine Br.go (fun _ => ?_) (fun _ => ?_)
    | refine draw_go hT hP mixed ?_
    | refine round_go hT hP ?_
  · exact hl
  · exact ⟨rfl, hl, h0⟩
  · refine ⟨of_decide_eq_true rfl, ?_⟩
    show (dM b).length ≤ _
    rw [hd]; exact Nat.zero_le _
  · refine .mk [] [] _ rfl rfl rfl rfl rfl rfl (imm_bool ?_)
    show (bif true then (decide (([0, 0, 0, 0, 0, 0, 0, 0, 0, 0] : List Int) = dN [] (qF b)) && decide (dM b = [])) else false) = true
    rw [dN_nil, hd]; rfl
def dd1S : PSpec := ⟨[gb], fun (b, _) => (some (List.length b ≤ 140737488355328 ∧ 0 < qF b), .cell (bv true), [])⟩
theorem dd1_ok : Good Try.prog 11 dd1S.spec := by
  have hT := tab_ok (fs := [(60, drivesS.spec), (39, sameS.spec), (61, dnewS.spec), (41, dfresh1S.spec)]) tree_ok
  have hP : SpecsOk Try.prog (tab tree [(60, drivesS.spec), (39, sameS.spec), (61, dnewS.spec), (41, dfresh1S.spec)]) := specs_cons drives_ok (specs_cons same_ok (specs_cons dnew_ok (specs_cons dfresh1_ok specs_nil)))
  refine dd1S.good (fn := Try.f11) hT hP Try.func11 (by kernel_rfl) rfl fun (b : List Int) hp => ?_
  obtain ⟨hl, h0⟩ : b.length ≤ 140737488355328 ∧ 0 < qF b := hp _ rfl
  have hd : (dM b).length ≤ 4611686018427387904 := by rw [dM_len]; have := qF_le b; omega
  repeat' first
    | (refine Go.mk ?_; conv => whnf)
    | refine Need.go ?_ ?_
    | refine NilG.go (fun _ => ?_) (fun _ => ?_)
    | refine Br.dec (fun _ => ?_) (fun _ => ?_)
    | refine Br.go (fun _ => ?_) (fun _ => ?_)
    | refine draw_go hT hP mixed ?_
    | refine round_go hT hP ?_
  · exact hl
  · exact ⟨rfl, hl, h0⟩
  · exact ⟨of_decide_eq_true rfl, hd⟩
  · refine .mk [] [] _ rfl rfl rfl rfl rfl rfl (imm_bool ?_)
    show (bif true then (decide (([0, 0, 0, 0, 0, 0, 0, 0, 0, 0] : List Int) = dN [] (qF b)) && decide (dM b = dM b)) else false) = true
    rw [dN_nil]; simp
def ddS : PSpec := ⟨[gb], fun (b, _) => (some (List.length b ≤ 140737488355328), .cell (bv true), [])⟩
theorem dd_ok : Good Try.prog 11 ddS.spec := by
  refine Good.cases dd0_ok dd1_ok fun (b, _) hp => ?_
  have hl : List.length b ≤ 140737488355328 := hp _ rfl
  by_cases h : qF b = 0
  · left
    refine ⟨fun q hq => ?_, rfl⟩
    injection hq with hq
    subst hq
    exact ⟨hl, h⟩
  · right
    refine ⟨fun q hq => ?_, rfl⟩
    injection hq with hq
    subst hq
    exact ⟨hl, Nat.pos_of_ne_zero h⟩

end Go.Proofs.Ytjggjnjmnmdgaaa
