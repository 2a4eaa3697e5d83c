/- bakelaw1.SoundActs answers true, whatever it is given. -/
import Derived.Test.YthpijepbbpcjeaaSound5
namespace Go.Proofs.Ythpijepbbpcjeaa
open Go.Fw
set_option linter.unusedVariables false
set_option linter.unusedSimpArgs false
set_option maxRecDepth 100000

theorem owF_len (N : List Int) (a k : Int) : (owF N a k).length = 12 := by
  unfold owF
  repeat' split
  all_goals first | rfl | (simp only [List.length_set]; rfl)
theorem owF_lt (N : List Int) (a k : Int) : (owF N a k).length ≤ 4611686018427387904 := by rw [owF_len]; decide
def oaS : PSpec := ⟨[gD, gi, gi], fun (d, a, k, _) => (none, .cell (bv true), [])⟩
theorem oa_ok : Good Try.prog 12 oaS.spec := by
  have hT := tab_ok (fs := [(41, soundsS.spec), (18, sameS.spec), (65, onewS.spec), (23, ofreshS.spec), (66, oreadS.spec), (25, oloadedS.spec), (67, owriteS.spec), (27, ostoredS.spec), (68, ooutS.spec), (33, oshowsS.spec), (69, onextS.spec), (35, orestsS.spec)]) tree_ok
  have hP : SpecsOk Try.prog (tab tree [(41, soundsS.spec), (18, sameS.spec), (65, onewS.spec), (23, ofreshS.spec), (66, oreadS.spec), (25, oloadedS.spec), (67, owriteS.spec), (27, ostoredS.spec), (68, ooutS.spec), (33, oshowsS.spec), (69, onextS.spec), (35, orestsS.spec)]) := specs_cons sounds_ok (specs_cons same_ok (specs_cons onew_ok (specs_cons ofresh_ok (specs_cons oread_ok (specs_cons oloaded_ok (specs_cons owrite_ok (specs_cons ostored_ok (specs_cons oout_ok (specs_cons oshows_ok (specs_cons onext_ok (specs_cons orests_ok specs_nil)))))))))))
  refine oaS.good (fn := Try.f12) hT hP Try.func12 (by kernel_rfl) rfl fun (d : Dv) (a k : Int) _ => ?_
  obtain ⟨N, M⟩ := d
  repeat' first
    | (refine Go.mk ?_; conv => whnf)
    | refine Need.go ?_ ?_
    | refine NilG.go (fun _ => ?_) (fun _ => ?_)
    | refine Br.dec (fun _ => ?_) (fun _ => ?_)
    | refine Br.go (fun _ => ?_) (fun _ => ?_)
    | refine draw_go hT hP mixed ?_
    | refine round_go hT hP ?_
  all_goals first
    | exact rfl
    | exact of_decide_eq_true rfl
    | exact ⟨owF_lt N a k, Nat.zero_le _⟩
    | (exfalso; rename_i h; simp at h; done)
    | (refine .mk [] [] _ rfl rfl rfl rfl rfl rfl (imm_bool ?_)
       simp)
    | skip

end Go.Proofs.Ythpijepbbpcjeaa
