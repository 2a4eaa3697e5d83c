/- bakelaw1.PortActs answers true, whatever it is given. -/
import Derived.Test.YtjggjnjmnmdgaaaPort
namespace Go.Proofs.Ytjggjnjmnmdgaaa
open Go.Fw
set_option linter.unusedVariables false
set_option linter.unusedSimpArgs false
set_option maxRecDepth 100000

def portsS : PSpec := ⟨[], fun _ => (none, .cell (bv true), [])⟩
theorem ports_ok : Good Try.prog 38 portsS.spec := by
  have hT := tab_ok (fs := [(40, pnewS.spec), (42, preadS.spec)]) tree_ok
  have hP : SpecsOk Try.prog (tab tree [(40, pnewS.spec), (42, preadS.spec)]) := specs_cons pnew_ok (specs_cons pread_ok specs_nil)
  refine portsS.good (fn := Try.f38) hT hP Try.func38 (by kernel_rfl) rfl fun _ => ?_
  repeat' first
    | (refine Go.mk ?_; conv => whnf)
    | refine Need.go ?_ ?_
    | refine NilG.go (fun _ => ?_) (fun _ => ?_)
    | refine Br.dec (fun _ => ?_) (fun _ => ?_)
    | refine Br.go (fun _ => ?_) (fun _ => ?_)
    | refine draw_go hT hP mixed ?_
    | refine round_go hT hP ?_
  refine .mk [] [] _ rfl rfl rfl rfl rfl rfl (imm_bool ?_)
  show (preadF [255, 0, 0] 0 == 255) = true
  decide

def paS : PSpec := ⟨[gD, gi, gi], fun (d, a, k, _) => (none, .cell (bv true), [])⟩
theorem pa_ok : Good Try.prog 8 paS.spec := by
  have hT := tab_ok (fs := [(38, portsS.spec), (39, sameS.spec), (40, pnewS.spec), (41, pfreshS.spec), (42, preadS.spec), (43, ploadedS.spec), (44, pwriteS.spec), (45, pstoredS.spec), (46, pinS.spec), (47, pgivenS.spec), (48, poutS.spec), (49, pshowsS.spec)]) tree_ok
  have hP : SpecsOk Try.prog (tab tree [(38, portsS.spec), (39, sameS.spec), (40, pnewS.spec), (41, pfreshS.spec), (42, preadS.spec), (43, ploadedS.spec), (44, pwriteS.spec), (45, pstoredS.spec), (46, pinS.spec), (47, pgivenS.spec), (48, poutS.spec), (49, pshowsS.spec)]) := specs_cons ports_ok (specs_cons same_ok (specs_cons pnew_ok (specs_cons pfresh_ok (specs_cons pread_ok (specs_cons ploaded_ok (specs_cons pwrite_ok (specs_cons pstored_ok (specs_cons pin_ok (specs_cons pgiven_ok (specs_cons pout_ok (specs_cons pshows_ok specs_nil)))))))))))
  refine paS.good (fn := Try.f8) hT hP Try.func8 (by kernel_rfl) rfl fun (d : Dv) (a k : Int) _ => ?_
  obtain ⟨N, M⟩ := d
  repeat' first
    | (refine Go.mk ?_; conv => whnf)
    | refine Need.go ?_ ?_
    | refine NilG.go (fun _ => ?_) (fun _ => ?_)
    | refine Br.dec (fun _ => ?_) (fun _ => ?_)
    | refine Br.go (fun _ => ?_) (fun _ => ?_)
    | refine draw_go hT hP mixed ?_
    | refine round_go hT hP ?_
  all_goals first
    | exact rfl
    | exact of_decide_eq_true rfl
    | (exfalso; rename_i h; simp at h; done)
    | (refine .mk [] [] _ rfl rfl rfl rfl rfl rfl (imm_bool ?_)
       simp)

end Go.Proofs.Ytjggjnjmnmdgaaa
