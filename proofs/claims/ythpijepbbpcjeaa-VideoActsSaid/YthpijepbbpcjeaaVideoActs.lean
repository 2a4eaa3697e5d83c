/- bakelaw1.VideoActs answers true, whatever it is given. -/
import Derived.Test.YthpijepbbpcjeaaVideo3
namespace Go.Proofs.Ythpijepbbpcjeaa
open Go.Fw
set_option linter.unusedVariables false
set_option linter.unusedSimpArgs false
set_option maxRecDepth 100000

theorem vwM_len (m : List Int) (a k : Int) : (vwM m a k).length = m.length := by
  unfold vwM; split
  · simp
  · rfl
theorem vwM_lt (M : List Int) (a k : Int) : (vwM (vM M) a k).length ≤ 4611686018427387904 := by rw [vwM_len, vM_len]; decide
def vaS : PSpec := ⟨[gD, gi, gi], fun (d, a, k, _) => (some (u8s d.2), .cell (bv true), [])⟩
theorem va_ok : Good Try.prog 5 vaS.spec := by
  have hT := tab_ok (fs := [(17, videosS.spec), (18, sameS.spec), (36, vnewS.spec), (23, vfreshS.spec), (37, vreadS.spec), (25, vloadedS.spec), (38, vwriteS.spec), (27, vstoredS.spec), (39, voutS.spec), (33, vshowsS.spec), (40, vnextS.spec), (35, vrestsS.spec)]) tree_ok
  have hP : SpecsOk Try.prog (tab tree [(17, videosS.spec), (18, sameS.spec), (36, vnewS.spec), (23, vfreshS.spec), (37, vreadS.spec), (25, vloadedS.spec), (38, vwriteS.spec), (27, vstoredS.spec), (39, voutS.spec), (33, vshowsS.spec), (40, vnextS.spec), (35, vrestsS.spec)]) := specs_cons videos_ok (specs_cons same_ok (specs_cons vnew_ok (specs_cons vfresh_ok (specs_cons vread_ok (specs_cons vloaded_ok (specs_cons vwrite_ok (specs_cons vstored_ok (specs_cons vout_ok (specs_cons vshows_ok (specs_cons vnext_ok (specs_cons vrests_ok specs_nil)))))))))))
  refine vaS.good (fn := Try.f5) hT hP Try.func5 (by kernel_rfl) rfl fun (d : Dv) (a k : Int) hp => ?_
  obtain ⟨N, M⟩ := d
  have hu : u8s M := hp _ rfl
  repeat' first
    | (refine Go.mk ?_; conv => whnf)
    | refine Need.go ?_ ?_
    | refine NilG.go (fun _ => ?_) (fun _ => ?_)
    | refine Br.dec (fun _ => ?_) (fun _ => ?_)
    | refine Br.go (fun _ => ?_) (fun _ => ?_)
    | refine draw_go hT hP mixed ?_
    | refine round_go hT hP ?_
  all_goals first
    | exact rfl
    | exact of_decide_eq_true rfl
    | exact ⟨rfl, hu⟩
    | exact hu
    | exact ⟨(by decide : 2 ≤ 4611686018427387904), vwM_lt M a k⟩
    | (exfalso; rename_i h; simp at h; done)
    | (refine .mk [] [] _ rfl rfl rfl rfl rfl rfl (imm_bool ?_)
       simp)
    | skip

end Go.Proofs.Ythpijepbbpcjeaa
