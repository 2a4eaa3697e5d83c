/- bakelaw1.TimerActs answers true, whatever it is given. -/
import Derived.Test.YtjggjnjmnmdgaaaTimerTicks
namespace Go.Proofs.Ytjggjnjmnmdgaaa
open Go.Fw
set_option linter.unusedVariables false
set_option linter.unusedSimpArgs false
set_option maxRecDepth 100000

theorem fin_read {l l' : List Int} {x y : Int} (h1 : l = l') (h2 : x = y) : [some (Blk.arr (.int .i64) l)] = [some (Blk.arr (.int .i64) l')] ∧ AV.tup [.agg [.own 0, .imm (.slice none 0 0)], I1 x] = AV.tup [.agg [.own 0, .imm (.slice none 0 0)], I1 y] := by rw [h1, h2]; exact ⟨rfl, rfl⟩
theorem tup_read {x y : Int} (h2 : x = y) : AV.tup [.agg [.own 0, .imm (.slice none 0 0)], I1 x] = AV.tup [.agg [.own 0, .imm (.slice none 0 0)], I1 y] := by rw [h2]

def trF (N : List Int) (a : Int) : Int := pickF [tA N % 256, tA N / 256, tC N, tF N] a
def trN (N : List Int) (a : Int) : List Int := [tA N, tB N, tC N, if a = 3 then 0 else tF N]
def treadS : PSpec := ⟨[gD, gi], fun (d, a, _) => (none, .tup [.agg [.own 0, .imm (.slice none 0 0)], I1 (trF d.1 a)], [.arr (.int .i64) (trN d.1 a)])⟩
theorem tread_ok : Good Try.prog 77 treadS.spec := by
  have hT := tab_ok (fs := [(97, tfitS.spec), (19, getM.spec)]) tree_ok
  have hP : SpecsOk Try.prog (tab tree [(97, tfitS.spec), (19, getM.spec)]) := specs_cons tfit_ok (specs_cons getM_ok specs_nil)
  refine treadS.good (fn := Try.f77) hT hP Try.func77 (by kernel_rfl) rfl fun (d : Dv) (a : Int) _ => ?_
  obtain ⟨N, M⟩ := d
  obtain ⟨rA, rB, rC, rF⟩ := tR N
  repeat' first
    | (refine Go.mk ?_; conv => whnf)
    | refine Need.go ?_ ?_
    | refine NilG.go (fun _ => ?_) (fun _ => ?_)
    | refine Br.dec (fun _ => ?_) (fun _ => ?_)
    | refine Br.go (fun _ => ?_) (fun _ => ?_)
    | refine draw_go hT hP mixed ?_
    | refine round_go hT hP ?_
  all_goals (try subst_vars)
  all_goals first
    | exact rfl
    | exact of_decide_eq_true rfl
    | (refine ⟨?_, ?_, by decide, by decide, by decide⟩
       · exact rA.1
       · exact (by omega : tA N < 4611686018427387904))
    | exact .mk [] [2] _ rfl rfl rfl rfl rfl rfl rfl
    | skip
  · refine .mk [] [2] _ rfl rfl rfl rfl rfl rfl (tup_read ?_)
    show tA N / 1 % 256 = tA N % 256
    omega
  · refine .mk [] [2] _ rfl rfl rfl rfl rfl rfl (tup_read ?_)
    show tA N / 256 % 256 = tA N / 256
    omega
  · rename_i h0 h1 h2 h3
    have e : trF N a = 0 := pick_no fun i hi => by
      have : i < 4 := hi
      omega
    refine .mk [] [2] _ rfl rfl rfl rfl rfl (blk_eq (l := timN N) ?_) (tup_read e.symm)
    show _ = trN N a
    rw [timN_eq, trN, if_neg h3]

def tloadedS : PSpec := ⟨[gC, gD, gi], fun (c, d, a, _) => (some (c = timC), .tup [.agg [.own 0, .imm (.slice none 0 0)], I1 (trF d.1 a)], [.arr (.int .i64) (trN d.1 a)])⟩
theorem tloaded_ok : Good Try.prog 43 tloadedS.spec := by
  have hT := tab_ok (fs := [(55, tformedS.spec), (88, pickS.spec)]) tree_ok
  have hP : SpecsOk Try.prog (tab tree [(55, tformedS.spec), (88, pickS.spec)]) := specs_cons tformed_ok (specs_cons pick_ok specs_nil)
  refine tloadedS.good (fn := Try.f43) hT hP Try.func43 (by kernel_rfl) rfl fun (c : Cv) (d : Dv) (a : Int) hp => ?_
  have hp : c = timC := hp _ rfl
  subst hp
  obtain ⟨N, M⟩ := d
  obtain ⟨rA, rB, rC, rF⟩ := tR N
  repeat' first
    | (refine Go.mk ?_; conv => whnf)
    | refine Need.go ?_ ?_
    | refine NilG.go (fun _ => ?_) (fun _ => ?_)
    | refine Br.dec (fun _ => ?_) (fun _ => ?_)
    | refine Br.go (fun _ => ?_) (fun _ => ?_)
    | refine draw_go hT hP mixed ?_
    | refine round_go hT hP ?_
  all_goals first
    | exact rfl
    | exact of_decide_eq_true rfl
    | skip
  · rename_i h
    have h : a = 3 := h
    subst h
    exact .mk [] [4] _ rfl rfl rfl rfl rfl rfl rfl
  · rename_i h
    have h : ¬ a = 3 := h
    refine .mk [] [4] _ rfl rfl rfl rfl rfl (blk_eq (l := timN N) ?_) (tup_read ?_)
    · show _ = trN N a
      rw [timN_eq, trN, if_neg h]
    · show pickF [Int.tmod (tA N) 256, IntKind.i64.wrap (Int.tdiv (tA N) 256), tC N, tF N] a = pickF [tA N % 256, tA N / 256, tC N, tF N] a
      rw [Int.tmod_eq_emod_of_nonneg (by omega), Int.tdiv_eq_ediv_of_nonneg (by omega), w64 (by omega) (by omega)]

def tirqS : PSpec := ⟨[gD], fun (d, _) => (none, .cell (bv (decide (tF d.1 = 1) && decide (tC d.1 ≥ 4))), [])⟩
theorem tirq_ok : Good Try.prog 79 tirqS.spec := by
  have hT := tab_ok (fs := [(97, tfitS.spec)]) tree_ok
  have hP : SpecsOk Try.prog (tab tree [(97, tfitS.spec)]) := specs_cons tfit_ok specs_nil
  refine tirqS.good (fn := Try.f79) hT hP Try.func79 (by kernel_rfl) rfl fun (d : Dv) _ => ?_
  obtain ⟨N, M⟩ := d
  obtain ⟨rA, rB, rC, rF⟩ := tR N
  obtain ⟨c1, c2, c4, c3⟩ := ctl rC.1 rC.2
  repeat' first
    | (refine Go.mk ?_; conv => whnf)
    | refine Need.go ?_ ?_
    | refine NilG.go (fun _ => ?_) (fun _ => ?_)
    | refine Br.dec (fun _ => ?_) (fun _ => ?_)
    | refine Br.go (fun _ => ?_) (fun _ => ?_)
    | refine draw_go hT hP mixed ?_
    | refine round_go hT hP ?_
  all_goals first
    | exact of_decide_eq_true rfl
    | skip
  · rename_i h
    have h : tF N = 1 := h
    refine .mk [] [] _ rfl rfl rfl rfl rfl rfl (imm_bool ?_)
    show (land .i64 (tC N) 4 != 0) = (decide (tF N = 1) && decide (tC N ≥ 4))
    rw [c4, decide_eq_true h, Bool.true_and]
  · rename_i h
    have h : ¬ tF N = 1 := h
    refine .mk [] [] _ rfl rfl rfl rfl rfl rfl (imm_bool ?_)
    show _ = (decide (tF N = 1) && decide (tC N ≥ 4))
    rw [decide_eq_false h]; rfl

def taskS : PSpec := ⟨[gC, gD], fun (c, d, _) => (some (c = timC), .cell (bv (decide (tF d.1 = 1) && decide (tC d.1 ≥ 4))), [])⟩
theorem task_ok : Good Try.prog 80 taskS.spec := by
  have hT := tab_ok (fs := [(55, tformedS.spec)]) tree_ok
  have hP : SpecsOk Try.prog (tab tree [(55, tformedS.spec)]) := specs_cons tformed_ok specs_nil
  refine taskS.good (fn := Try.f80) hT hP Try.func80 (by kernel_rfl) rfl fun (c : Cv) (d : Dv) hp => ?_
  have hp : c = timC := hp _ rfl
  subst hp
  obtain ⟨N, M⟩ := d
  repeat' first
    | (refine Go.mk ?_; conv => whnf)
    | refine Need.go ?_ ?_
    | refine NilG.go (fun _ => ?_) (fun _ => ?_)
    | refine Br.dec (fun _ => ?_) (fun _ => ?_)
    | refine Br.go (fun _ => ?_) (fun _ => ?_)
    | refine draw_go hT hP mixed ?_
    | refine round_go hT hP ?_
  all_goals first
    | exact rfl
    | exact of_decide_eq_true rfl
    | skip
  · rename_i h
    have h : tF N = 1 := h
    refine .mk [] [] _ rfl rfl rfl rfl rfl rfl (imm_bool ?_)
    show decide (tC N ≥ 4) = (decide (tF N = 1) && decide (tC N ≥ 4))
    rw [decide_eq_true h, Bool.true_and]
  · rename_i h
    have h : ¬ tF N = 1 := h
    refine .mk [] [] _ rfl rfl rfl rfl rfl rfl (imm_bool ?_)
    show _ = (decide (tF N = 1) && decide (tC N ≥ 4))
    rw [decide_eq_false h]; rfl

def tnextF (N : List Int) : Int := if tC N % 2 = 0 then 100000 else tA N
def tnextS : PSpec := ⟨[gD], fun (d, _) => (none, I (tnextF d.1), [])⟩
theorem tnext_ok : Good Try.prog 81 tnextS.spec := by
  have hT := tab_ok (fs := [(97, tfitS.spec)]) tree_ok
  have hP : SpecsOk Try.prog (tab tree [(97, tfitS.spec)]) := specs_cons tfit_ok specs_nil
  refine tnextS.good (fn := Try.f81) hT hP Try.func81 (by kernel_rfl) rfl fun (d : Dv) _ => ?_
  obtain ⟨N, M⟩ := d
  obtain ⟨rA, rB, rC, rF⟩ := tR N
  obtain ⟨c1, c2, c4, c3⟩ := ctl rC.1 rC.2
  repeat' first
    | (refine Go.mk ?_; conv => whnf)
    | refine Need.go ?_ ?_
    | refine NilG.go (fun _ => ?_) (fun _ => ?_)
    | refine Br.dec (fun _ => ?_) (fun _ => ?_)
    | refine Br.go (fun _ => ?_) (fun _ => ?_)
    | refine draw_go hT hP mixed ?_
    | refine round_go hT hP ?_
  all_goals first
    | exact of_decide_eq_true rfl
    | skip
  · rename_i h
    have h : land .i64 (tC N) 1 = 0 := h
    rw [h] at c1
    refine .mk [] [] _ rfl rfl rfl rfl rfl rfl (imm_int ?_)
    show _ = tnextF N
    rw [tnextF, if_pos (of_decide_eq_true c1.symm)]
  · rename_i h
    have h : ¬ land .i64 (tC N) 1 = 0 := h
    have hc : ¬ tC N % 2 = 0 := by
      intro e; rw [decide_eq_true e] at c1; exact h (by simpa using c1)
    refine .mk [] [] _ rfl rfl rfl rfl rfl rfl (imm_int ?_)
    show _ = tnextF N
    rw [tnextF, if_neg hc]; rfl

def trestsS : PSpec := ⟨[gC, gD], fun (c, d, _) => (some (c = timC), I (tnextF d.1), [])⟩
theorem trests_ok : Good Try.prog 82 trestsS.spec := by
  have hT := tab_ok (fs := [(55, tformedS.spec)]) tree_ok
  have hP : SpecsOk Try.prog (tab tree [(55, tformedS.spec)]) := specs_cons tformed_ok specs_nil
  refine trestsS.good (fn := Try.f82) hT hP Try.func82 (by kernel_rfl) rfl fun (c : Cv) (d : Dv) hp => ?_
  have hp : c = timC := hp _ rfl
  subst hp
  obtain ⟨N, M⟩ := d
  obtain ⟨rA, rB, rC, rF⟩ := tR N
  repeat' first
    | (refine Go.mk ?_; conv => whnf)
    | refine Need.go ?_ ?_
    | refine NilG.go (fun _ => ?_) (fun _ => ?_)
    | refine Br.dec (fun _ => ?_) (fun _ => ?_)
    | refine Br.go (fun _ => ?_) (fun _ => ?_)
    | refine draw_go hT hP mixed ?_
    | refine round_go hT hP ?_
  all_goals first
    | exact rfl
    | exact of_decide_eq_true rfl
    | skip
  · rename_i h
    have h : Int.tmod (tC N) 2 = 1 := h
    rw [Int.tmod_eq_emod_of_nonneg (by omega)] at h
    refine .mk [] [] _ rfl rfl rfl rfl rfl rfl (imm_int ?_)
    show _ = tnextF N
    rw [tnextF, if_neg (by omega)]; rfl
  · rename_i h
    have h : ¬ Int.tmod (tC N) 2 = 1 := h
    rw [Int.tmod_eq_emod_of_nonneg (by omega)] at h
    refine .mk [] [] _ rfl rfl rfl rfl rfl rfl (imm_int ?_)
    show _ = tnextF N
    rw [tnextF, if_pos (by omega)]

def tfreshS : PSpec := ⟨[gC], fun (c, _) => (some (c = timC), devR, [.arr (.int .i64) [0, 0, 0, 0]])⟩
theorem tfresh_ok : Good Try.prog 41 tfreshS.spec := by
  have hT := tab_ok (fs := [(55, tformedS.spec)]) tree_ok
  have hP : SpecsOk Try.prog (tab tree [(55, tformedS.spec)]) := specs_cons tformed_ok specs_nil
  refine tfreshS.good (fn := Try.f41) hT hP Try.func41 (by kernel_rfl) rfl fun (c : Cv) hp => ?_
  have hp : c = timC := hp _ rfl
  subst hp
  repeat' first
    | (refine Go.mk ?_; conv => whnf)
    | refine Need.go ?_ ?_
    | refine NilG.go (fun _ => ?_) (fun _ => ?_)
    | refine Br.dec (fun _ => ?_) (fun _ => ?_)
    | refine Br.go (fun _ => ?_) (fun _ => ?_)
    | refine draw_go hT hP mixed ?_
    | refine round_go hT hP ?_
  · exact rfl
  · exact .mk [] [2] _ rfl rfl rfl rfl rfl rfl rfl

def taS : PSpec := ⟨[gD, gi, gi], fun (d, a, k, _) => (none, .cell (bv true), [])⟩
theorem ta_ok : Good Try.prog 15 taS.spec := by
  have hT := tab_ok (fs := [(57, timersS.spec), (39, sameS.spec), (76, tnewS.spec), (41, tfreshS.spec), (77, treadS.spec), (43, tloadedS.spec), (78, twriteS.spec), (45, tstoredS.spec), (79, tirqS.spec), (80, taskS.spec), (81, tnextS.spec), (82, trestsS.spec)]) tree_ok
  have hP : SpecsOk Try.prog (tab tree [(57, timersS.spec), (39, sameS.spec), (76, tnewS.spec), (41, tfreshS.spec), (77, treadS.spec), (43, tloadedS.spec), (78, twriteS.spec), (45, tstoredS.spec), (79, tirqS.spec), (80, taskS.spec), (81, tnextS.spec), (82, trestsS.spec)]) := specs_cons timers_ok (specs_cons same_ok (specs_cons tnew_ok (specs_cons tfresh_ok (specs_cons tread_ok (specs_cons tloaded_ok (specs_cons twrite_ok (specs_cons tstored_ok (specs_cons tirq_ok (specs_cons task_ok (specs_cons tnext_ok (specs_cons trests_ok specs_nil)))))))))))
  refine taS.good (fn := Try.f15) hT hP Try.func15 (by kernel_rfl) rfl fun (d : Dv) (a k : Int) _ => ?_
  obtain ⟨N, M⟩ := d
  repeat' first
    | (refine Go.mk ?_; conv => whnf)
    | refine Need.go ?_ ?_
    | refine NilG.go (fun _ => ?_) (fun _ => ?_)
    | refine Br.dec (fun _ => ?_) (fun _ => ?_)
    | refine Br.go (fun _ => ?_) (fun _ => ?_)
    | refine draw_go hT hP mixed ?_
    | refine round_go hT hP ?_
  all_goals first
    | exact rfl
    | exact of_decide_eq_true rfl
    | (exfalso; rename_i h; simp at h; done)
    | (refine .mk [] [] _ rfl rfl rfl rfl rfl rfl (imm_bool ?_)
       simp)

end Go.Proofs.Ytjggjnjmnmdgaaa
