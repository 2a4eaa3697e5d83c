/- bakelaw1.AluDoes answers true, whatever it is given. -/
import Derived.Test.YthpijepbbpcjeaaStepped
import Derived.Test.YthpijepbbpcjeaaCoreLaw
namespace Go.Proofs.Ythpijepbbpcjeaa
open Go.Fw
set_option linter.unusedVariables false
set_option linter.unusedSimpArgs false
set_option maxRecDepth 100000

def doesS : PSpec := ⟨[], fun _ => (none, .cell (bv true), [])⟩
theorem does_ok : Good Try.prog 70 doesS.spec := by
  have hT := tab_ok (fs := [(73, doS.spec)]) tree_ok
  have hP : SpecsOk Try.prog (tab tree [(73, doS.spec)]) := specs_cons do_ok specs_nil
  refine doesS.good (fn := Try.f70) hT hP Try.func70 (by kernel_rfl) rfl fun _ => ?_
  have e1 : doR (4, 0, 1, 0) [200, 100, 0, 0, 0, 0, 0, 0, 0] = [44, 100, 0, 0, 1, 0, 0, 0, 0] := by decide +kernel
  have e2 : doE (4, 0, 1, 0) [200, 100, 0, 0, 0, 0, 0, 0, 0] = false := by decide +kernel
  repeat' first
    | (refine Go.mk ?_; conv => whnf)
    | refine Need.go ?_ ?_
    | refine NilG.go (fun _ => ?_) (fun _ => ?_)
    | refine Br.dec (fun _ => ?_) (fun _ => ?_)
    | refine Br.go (fun _ => ?_) (fun _ => ?_)
    | refine draw_go hT hP mixed ?_
    | refine round_go hT hP ?_
  all_goals first
    | exact of_decide_eq_true rfl
    | skip
  all_goals (try refine .mk [] [] _ rfl rfl rfl rfl rfl rfl (imm_bool ?_))
  all_goals clear hT hP
  all_goals first
    | decide +kernel
    | (exfalso; simp_all; done)
    | trace_state
def alS : PSpec := ⟨[gS, gR], fun (s, r, _) => (some (List.length r = 9), .cell (bv true), [])⟩
theorem al_ok : Good Try.prog 13 alS.spec := by
  have hT := tab_ok (fs := [(70, doesS.spec), (71, fitS.spec), (72, fitS.spec), (73, doS.spec), (74, doS.spec)]) tree_ok
  have hP : SpecsOk Try.prog (tab tree [(70, doesS.spec), (71, fitS.spec), (72, fitS.spec), (73, doS.spec), (74, doS.spec)]) := specs_cons does_ok (specs_cons aFit_ok (specs_cons rFit_ok (specs_cons do_ok (specs_cons stepped_ok specs_nil))))
  refine alS.good (fn := Try.f13) hT hP Try.func13 (by kernel_rfl) rfl fun (s : Stp) (r : List Int) hp => ?_
  obtain ⟨d, to, fr, n⟩ := s
  have hz : r.length = 9 := hp _ rfl
  clear hp
  repeat' first
    | (refine Go.mk ?_; conv => whnf)
    | refine Need.go ?_ ?_
    | refine NilG.go (fun _ => ?_) (fun _ => ?_)
    | refine Br.dec (fun _ => ?_) (fun _ => ?_)
    | refine Br.go (fun _ => ?_) (fun _ => ?_)
    | refine draw_go hT hP mixed ?_
    | refine round_go hT hP ?_
  all_goals first
    | exact hz
    | exact of_decide_eq_true rfl
    | skip
  all_goals (try refine .mk [] [] _ rfl rfl rfl rfl rfl rfl (imm_bool ?_))
  all_goals clear hT hP
  all_goals (try simp only [castL_eq] at *)
  all_goals first
    | (rw [denEq_self rfl]; rfl)
    | (exfalso; rename_i h; rw [denEq_self rfl] at h; cases h; done)
    | (exfalso; rename_i h; exact h trivial)
    | exact beq_self_eq_true _
    | skip
  all_goals trace_state

end Go.Proofs.Ythpijepbbpcjeaa
