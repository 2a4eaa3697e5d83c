/- bakelaw1.SaveBytes answers true, whatever it is given. -/
import Derived.Test.YthpijepbbpcjeaaRead2
namespace Go.Proofs.Ythpijepbbpcjeaa
open Go.Fw
set_option linter.unusedVariables false
set_option linter.unusedSimpArgs false
set_option linter.constructorNameAsVariable false
set_option maxRecDepth 100000

def mach0 : Mach := (64, ([0, 0, 0, 0, 0, 0, 0, 0, 0], 0, 0, false), [], 0, 0, 0)
theorem pack0_ok : packP mach0 := by
  refine ⟨fun n hn => ?_, fun d hd => (by cases hd), rfl, by decide⟩
  have hn : n ∈ [64, 0, 0, 0, 0, 0, 0, 0, 0, 0, 0, 0, (0 : Int), 0, 0, 0, 0] := hn
  simp at hn
  unfold i64P
  omega
theorem pack0_eq : packF mach0 = bytes0 := by
  have e64 : encI 64 = [128, 1] := by
    unfold encI zig
    rw [if_neg (by omega), enc7_ge (by decide), enc7_lt (by decide)]; rfl
  have e0 : encI 0 = [0] := by
    unfold encI zig
    rw [if_neg (by omega), enc7_lt (by decide)]; rfl
  show encAll [64, 0, 0, 0, 0, 0, 0, 0, 0, 0, 0, 0, (0 : Int), 0, 0, 0, 0] ++ [] = bytes0
  simp [encAll, e64, e0, bytes0]
def savesS : PSpec := ⟨[], fun _ => (none, .cell (bv true), [])⟩
set_option maxHeartbeats 4000000 in
theorem saves_ok : Good Try.prog 44 savesS.spec := by
  have hT := tab_ok (fs := [(45, packS.spec), (47, read0S.spec)]) tree_ok
  have hP : SpecsOk Try.prog (tab tree [(45, packS.spec), (47, read0S.spec)]) := specs_cons bytes_ok (specs_cons read0_ok specs_nil)
  refine savesS.good (fn := Try.f44) hT hP Try.func44 (by kernel_rfl) rfl fun _ => ?_
  repeat' first
    | (refine Go.mk ?_; conv => whnf)
    | refine Need.go ?_ ?_
    | refine NilG.go (fun _ => ?_) (fun _ => ?_)
    | refine Br.dec (fun _ => ?_) (fun _ => ?_)
    | refine Br.go (fun _ => ?_) (fun _ => ?_)
    | refine draw_go hT hP mixed ?_
    | refine round_go hT hP ?_
  all_goals first
    | exact pack0_ok
    | exact pack0_eq
    | exact of_decide_eq_true rfl
    | exact .mk [] [] _ rfl rfl rfl rfl rfl rfl rfl
    | skip
  all_goals trace_state
def sbS : PSpec := ⟨[gM], fun (m, _) => (some (packP m), .cell (bv true), [])⟩
set_option maxHeartbeats 4000000 in
theorem sb_ok : Good Try.prog 7 sbS.spec := by
  have hT := tab_ok (fs := [(44, savesS.spec), (45, packS.spec), (46, packS.spec)]) tree_ok
  have hP : SpecsOk Try.prog (tab tree [(44, savesS.spec), (45, packS.spec), (46, packS.spec)]) := specs_cons saves_ok (specs_cons bytes_ok (specs_cons packed_ok specs_nil))
  refine sbS.good (fn := Try.f7) hT hP Try.func7 (by kernel_rfl) rfl fun (m : Mach) hq => ?_
  have hm : packP m := hq _ rfl
  clear hq
  obtain ⟨tm, ⟨r, op, at_, nmi⟩, ds, bd, ba, bdt⟩ := m
  repeat' first
    | (refine Go.mk ?_; conv => whnf)
    | refine Need.go ?_ ?_
    | refine NilG.go (fun _ => ?_) (fun _ => ?_)
    | refine Br.dec (fun _ => ?_) (fun _ => ?_)
    | refine Br.go (fun _ => ?_) (fun _ => ?_)
    | refine draw_go hT hP mixed ?_
    | refine round_go hT hP ?_
  all_goals first
    | exact hm
    | exact of_decide_eq_true rfl
    | skip
  refine .mk [] [] _ rfl rfl rfl rfl rfl rfl (imm_bool ?_)
  exact beq_self_eq_true (ByteArray.toList (strOf (packF (tm, (r, op, at_, nmi), ds, bd, ba, bdt))))

end Go.Proofs.Ythpijepbbpcjeaa
