/- Part 8 of the proof: TabStepC TabStep2 SoundTicks. No statement is handed in here; conditions: none. -/
import Derived.Test.YtofgbclopbmlcaaGreatG7
/- Steps of a cycle: what the reference says, kind by kind (printed by genstep.py). -/
namespace Go.Proofs.YtofgbclopbmlcaaGreat
open Go.Fw
set_option linter.unusedVariables false
set_option linter.unusedSimpArgs false
set_option linter.constructorNameAsVariable false
set_option maxRecDepth 100000

set_option maxHeartbeats 4000000 in
theorem rStep18_ok : GoodF Tryz.prog 199 (rstepS 18).spec := by
  have hT := tab_ok (fs := [(139, narrowS.spec), (140, wideS.spec)]) tree_ok
  have hP : SpecsOk Tryz.prog (tab tree [(139, narrowS.spec), (140, wideS.spec)]) := specs_cons rNarrow_ok (specs_cons rWide_ok specs_nil)
  refine (rstepS 18).good (fn := Tryz.f199) hT hP Tryz.func199 (by kernel_rfl) rfl fun (s : Stp) hq => ?_
  obtain ⟨sd, st, sf, sn⟩ := s
  have hd : sd = 18 := hq _ rfl
  clear hq
  subst hd
  repeat' first
    | (refine Go.mk ?_; conv => whnf)
    | refine Need.go ?_ ?_
    | refine NilG.go (fun _ => ?_) (fun _ => ?_)
    | refine Br.dec (fun _ => ?_) (fun _ => ?_)
    | refine Br.go (fun _ => ?_) (fun _ => ?_)
    | refine draw_go hT hP mixed ?_
    | refine round_go hT hP ?_
  all_goals clear hT hP
  all_goals (refine .mk [] [] _ rfl rfl rfl rfl rfl rfl (imm_int ?_))
  all_goals (show _ = stpE (18, st, sf, sn))
  all_goals (simp [stpE, mostI, useT, fitB, regB, wideB, narrowB] at *)
  all_goals first
    | omega
    | (simp_all; done)
    | (simp_all; omega)
    | (refine ⟨by omega, by omega, ?_, by omega, by omega⟩; rw [Bool.eq_iff_iff]; simp; omega)
    | skip

set_option maxHeartbeats 4000000 in
theorem rStep19_ok : GoodF Tryz.prog 199 (rstepS 19).spec := by
  have hT := tab_ok (fs := [(139, narrowS.spec), (140, wideS.spec)]) tree_ok
  have hP : SpecsOk Tryz.prog (tab tree [(139, narrowS.spec), (140, wideS.spec)]) := specs_cons rNarrow_ok (specs_cons rWide_ok specs_nil)
  refine (rstepS 19).good (fn := Tryz.f199) hT hP Tryz.func199 (by kernel_rfl) rfl fun (s : Stp) hq => ?_
  obtain ⟨sd, st, sf, sn⟩ := s
  have hd : sd = 19 := hq _ rfl
  clear hq
  subst hd
  repeat' first
    | (refine Go.mk ?_; conv => whnf)
    | refine Need.go ?_ ?_
    | refine NilG.go (fun _ => ?_) (fun _ => ?_)
    | refine Br.dec (fun _ => ?_) (fun _ => ?_)
    | refine Br.go (fun _ => ?_) (fun _ => ?_)
    | refine draw_go hT hP mixed ?_
    | refine round_go hT hP ?_
  all_goals clear hT hP
  all_goals (refine .mk [] [] _ rfl rfl rfl rfl rfl rfl (imm_int ?_))
  all_goals (show _ = stpE (19, st, sf, sn))
  all_goals (simp [stpE, mostI, useT, fitB, regB, wideB, narrowB] at *)
  all_goals first
    | omega
    | (simp_all; done)
    | (simp_all; omega)
    | (refine ⟨by omega, by omega, ?_, by omega, by omega⟩; rw [Bool.eq_iff_iff]; simp; omega)
    | skip

set_option maxHeartbeats 4000000 in
theorem rStep20_ok : GoodF Tryz.prog 199 (rstepS 20).spec := by
  have hT := tab_ok (fs := [(139, narrowS.spec), (140, wideS.spec)]) tree_ok
  have hP : SpecsOk Tryz.prog (tab tree [(139, narrowS.spec), (140, wideS.spec)]) := specs_cons rNarrow_ok (specs_cons rWide_ok specs_nil)
  refine (rstepS 20).good (fn := Tryz.f199) hT hP Tryz.func199 (by kernel_rfl) rfl fun (s : Stp) hq => ?_
  obtain ⟨sd, st, sf, sn⟩ := s
  have hd : sd = 20 := hq _ rfl
  clear hq
  subst hd
  repeat' first
    | (refine Go.mk ?_; conv => whnf)
    | refine Need.go ?_ ?_
    | refine NilG.go (fun _ => ?_) (fun _ => ?_)
    | refine Br.dec (fun _ => ?_) (fun _ => ?_)
    | refine Br.go (fun _ => ?_) (fun _ => ?_)
    | refine draw_go hT hP mixed ?_
    | refine round_go hT hP ?_
  all_goals clear hT hP
  all_goals (refine .mk [] [] _ rfl rfl rfl rfl rfl rfl (imm_int ?_))
  all_goals (show _ = stpE (20, st, sf, sn))
  all_goals (simp [stpE, mostI, useT, fitB, regB, wideB, narrowB] at *)
  all_goals first
    | omega
    | (simp_all; done)
    | (simp_all; omega)
    | (refine ⟨by omega, by omega, ?_, by omega, by omega⟩; rw [Bool.eq_iff_iff]; simp; omega)
    | skip

set_option maxHeartbeats 4000000 in
theorem rStep21_ok : GoodF Tryz.prog 199 (rstepS 21).spec := by
  have hT := tab_ok (fs := [(139, narrowS.spec), (140, wideS.spec)]) tree_ok
  have hP : SpecsOk Tryz.prog (tab tree [(139, narrowS.spec), (140, wideS.spec)]) := specs_cons rNarrow_ok (specs_cons rWide_ok specs_nil)
  refine (rstepS 21).good (fn := Tryz.f199) hT hP Tryz.func199 (by kernel_rfl) rfl fun (s : Stp) hq => ?_
  obtain ⟨sd, st, sf, sn⟩ := s
  have hd : sd = 21 := hq _ rfl
  clear hq
  subst hd
  repeat' first
    | (refine Go.mk ?_; conv => whnf)
    | refine Need.go ?_ ?_
    | refine NilG.go (fun _ => ?_) (fun _ => ?_)
    | refine Br.dec (fun _ => ?_) (fun _ => ?_)
    | refine Br.go (fun _ => ?_) (fun _ => ?_)
    | refine draw_go hT hP mixed ?_
    | refine round_go hT hP ?_
  all_goals clear hT hP
  all_goals (refine .mk [] [] _ rfl rfl rfl rfl rfl rfl (imm_int ?_))
  all_goals (show _ = stpE (21, st, sf, sn))
  all_goals (simp [stpE, mostI, useT, fitB, regB, wideB, narrowB] at *)
  all_goals first
    | omega
    | (simp_all; done)
    | (simp_all; omega)
    | (refine ⟨by omega, by omega, ?_, by omega, by omega⟩; rw [Bool.eq_iff_iff]; simp; omega)
    | skip

set_option maxHeartbeats 4000000 in
theorem rStep22_ok : GoodF Tryz.prog 199 (rstepS 22).spec := by
  have hT := tab_ok (fs := [(139, narrowS.spec), (140, wideS.spec)]) tree_ok
  have hP : SpecsOk Tryz.prog (tab tree [(139, narrowS.spec), (140, wideS.spec)]) := specs_cons rNarrow_ok (specs_cons rWide_ok specs_nil)
  refine (rstepS 22).good (fn := Tryz.f199) hT hP Tryz.func199 (by kernel_rfl) rfl fun (s : Stp) hq => ?_
  obtain ⟨sd, st, sf, sn⟩ := s
  have hd : sd = 22 := hq _ rfl
  clear hq
  subst hd
  repeat' first
    | (refine Go.mk ?_; conv => whnf)
    | refine Need.go ?_ ?_
    | refine NilG.go (fun _ => ?_) (fun _ => ?_)
    | refine Br.dec (fun _ => ?_) (fun _ => ?_)
    | refine Br.go (fun _ => ?_) (fun _ => ?_)
    | refine draw_go hT hP mixed ?_
    | refine round_go hT hP ?_
  all_goals clear hT hP
  all_goals (refine .mk [] [] _ rfl rfl rfl rfl rfl rfl (imm_int ?_))
  all_goals (show _ = stpE (22, st, sf, sn))
  all_goals (simp [stpE, mostI, useT, fitB, regB, wideB, narrowB] at *)
  all_goals first
    | omega
    | (simp_all; done)
    | (simp_all; omega)
    | (refine ⟨by omega, by omega, ?_, by omega, by omega⟩; rw [Bool.eq_iff_iff]; simp; omega)
    | skip

set_option maxHeartbeats 4000000 in
theorem rStep23_ok : GoodF Tryz.prog 199 (rstepS 23).spec := by
  have hT := tab_ok (fs := [(139, narrowS.spec), (140, wideS.spec)]) tree_ok
  have hP : SpecsOk Tryz.prog (tab tree [(139, narrowS.spec), (140, wideS.spec)]) := specs_cons rNarrow_ok (specs_cons rWide_ok specs_nil)
  refine (rstepS 23).good (fn := Tryz.f199) hT hP Tryz.func199 (by kernel_rfl) rfl fun (s : Stp) hq => ?_
  obtain ⟨sd, st, sf, sn⟩ := s
  have hd : sd = 23 := hq _ rfl
  clear hq
  subst hd
  repeat' first
    | (refine Go.mk ?_; conv => whnf)
    | refine Need.go ?_ ?_
    | refine NilG.go (fun _ => ?_) (fun _ => ?_)
    | refine Br.dec (fun _ => ?_) (fun _ => ?_)
    | refine Br.go (fun _ => ?_) (fun _ => ?_)
    | refine draw_go hT hP mixed ?_
    | refine round_go hT hP ?_
  all_goals clear hT hP
  all_goals (refine .mk [] [] _ rfl rfl rfl rfl rfl rfl (imm_int ?_))
  all_goals (show _ = stpE (23, st, sf, sn))
  all_goals (simp [stpE, mostI, useT, fitB, regB, wideB, narrowB] at *)
  all_goals first
    | omega
    | (simp_all; done)
    | (simp_all; omega)
    | (refine ⟨by omega, by omega, ?_, by omega, by omega⟩; rw [Bool.eq_iff_iff]; simp; omega)
    | skip

set_option maxHeartbeats 4000000 in
theorem rStep24_ok : GoodF Tryz.prog 199 (rstepS 24).spec := by
  have hT := tab_ok (fs := [(139, narrowS.spec), (140, wideS.spec)]) tree_ok
  have hP : SpecsOk Tryz.prog (tab tree [(139, narrowS.spec), (140, wideS.spec)]) := specs_cons rNarrow_ok (specs_cons rWide_ok specs_nil)
  refine (rstepS 24).good (fn := Tryz.f199) hT hP Tryz.func199 (by kernel_rfl) rfl fun (s : Stp) hq => ?_
  obtain ⟨sd, st, sf, sn⟩ := s
  have hd : sd = 24 := hq _ rfl
  clear hq
  subst hd
  repeat' first
    | (refine Go.mk ?_; conv => whnf)
    | refine Need.go ?_ ?_
    | refine NilG.go (fun _ => ?_) (fun _ => ?_)
    | refine Br.dec (fun _ => ?_) (fun _ => ?_)
    | refine Br.go (fun _ => ?_) (fun _ => ?_)
    | refine draw_go hT hP mixed ?_
    | refine round_go hT hP ?_
  all_goals clear hT hP
  all_goals (refine .mk [] [] _ rfl rfl rfl rfl rfl rfl (imm_int ?_))
  all_goals (show _ = stpE (24, st, sf, sn))
  all_goals (simp [stpE, mostI, useT, fitB, regB, wideB, narrowB] at *)
  all_goals first
    | omega
    | (simp_all; done)
    | (simp_all; omega)
    | (refine ⟨by omega, by omega, ?_, by omega, by omega⟩; rw [Bool.eq_iff_iff]; simp; omega)
    | skip
theorem rStepX_ok : GoodF Tryz.prog 199 rstepXS.spec := by
  have hT := tab_ok (fs := [(139, narrowS.spec), (140, wideS.spec)]) tree_ok
  have hP : SpecsOk Tryz.prog (tab tree [(139, narrowS.spec), (140, wideS.spec)]) := specs_cons rNarrow_ok (specs_cons rWide_ok specs_nil)
  refine rstepXS.good (fn := Tryz.f199) hT hP Tryz.func199 (by kernel_rfl) rfl fun (s : Stp) hq => ?_
  obtain ⟨sd, st, sf, sn⟩ := s
  have hx : sd < 0 ∨ sd > 24 := hq _ rfl
  clear hq
  repeat' first
    | (exfalso; rename_i g h; exact do_in hx g h)
    | (refine Go.mk ?_; conv => whnf)
    | refine Need.go ?_ ?_
    | refine NilG.go (fun _ => ?_) (fun _ => ?_)
    | refine Br.dec (fun _ => ?_) (fun _ => ?_)
    | refine Br.go (fun _ => ?_) (fun _ => ?_)
    | refine draw_go hT hP mixed ?_
    | refine round_go hT hP ?_
  all_goals clear hT hP
  all_goals (refine .mk [] [] _ rfl rfl rfl rfl rfl rfl (imm_int ?_))
  all_goals (show 8 = stpE (sd, st, sf, sn); unfold stpE)
  all_goals (rw [if_pos]; show sd < 0 ∨ sd ≥ 25; omega)

end Go.Proofs.YtofgbclopbmlcaaGreat

/- Steps of a cycle: what the reference says. -/
namespace Go.Proofs.YtofgbclopbmlcaaGreat
open Go.Fw
set_option linter.unusedVariables false
set_option linter.unusedSimpArgs false
set_option linter.constructorNameAsVariable false
set_option maxRecDepth 100000

theorem doings (d : Int) : (d < 0 ∨ d > 24) ∨ d = 0 ∨ d = 1 ∨ d = 2 ∨ d = 3 ∨ d = 4 ∨ d = 5 ∨ d = 6 ∨ d = 7 ∨ d = 8 ∨ d = 9 ∨ d = 10 ∨ d = 11 ∨ d = 12 ∨ d = 13 ∨ d = 14 ∨ d = 15 ∨ d = 16 ∨ d = 17 ∨ d = 18 ∨ d = 19 ∨ d = 20 ∨ d = 21 ∨ d = 22 ∨ d = 23 ∨ d = 24 := by omega
theorem rStep_ok : GoodF Tryz.prog 199 tstepS.spec := by
  refine GoodF.sel rStepX_ok fun (s, _) hp => ?_
  obtain ⟨sd, st, sf, sn⟩ := s
  clear hp
  show ∃ o1 : Args [gStep] → Option Prop × AV × List Blk, _
  rcases doings sd with hx | rfl | rfl | rfl | rfl | rfl | rfl | rfl | rfl | rfl | rfl | rfl | rfl | rfl | rfl | rfl | rfl | rfl | rfl | rfl | rfl | rfl | rfl | rfl | rfl | rfl
  · exact ⟨_, rStepX_ok, fun q hq => by cases hq; exact hx, .refl⟩
  · exact ⟨_, rStep0_ok, fun q hq => by cases hq; rfl, .refl⟩
  · exact ⟨_, rStep1_ok, fun q hq => by cases hq; rfl, .refl⟩
  · exact ⟨_, rStep2_ok, fun q hq => by cases hq; rfl, .refl⟩
  · exact ⟨_, rStep3_ok, fun q hq => by cases hq; rfl, .refl⟩
  · exact ⟨_, rStep4_ok, fun q hq => by cases hq; rfl, .refl⟩
  · exact ⟨_, rStep5_ok, fun q hq => by cases hq; rfl, .refl⟩
  · exact ⟨_, rStep6_ok, fun q hq => by cases hq; rfl, .refl⟩
  · exact ⟨_, rStep7_ok, fun q hq => by cases hq; rfl, .refl⟩
  · exact ⟨_, rStep8_ok, fun q hq => by cases hq; rfl, .refl⟩
  · exact ⟨_, rStep9_ok, fun q hq => by cases hq; rfl, .refl⟩
  · exact ⟨_, rStep10_ok, fun q hq => by cases hq; rfl, .refl⟩
  · exact ⟨_, rStep11_ok, fun q hq => by cases hq; rfl, .refl⟩
  · exact ⟨_, rStep12_ok, fun q hq => by cases hq; rfl, .refl⟩
  · exact ⟨_, rStep13_ok, fun q hq => by cases hq; rfl, .refl⟩
  · exact ⟨_, rStep14_ok, fun q hq => by cases hq; rfl, .refl⟩
  · exact ⟨_, rStep15_ok, fun q hq => by cases hq; rfl, .refl⟩
  · exact ⟨_, rStep16_ok, fun q hq => by cases hq; rfl, .refl⟩
  · exact ⟨_, rStep17_ok, fun q hq => by cases hq; rfl, .refl⟩
  · exact ⟨_, rStep18_ok, fun q hq => by cases hq; rfl, .refl⟩
  · exact ⟨_, rStep19_ok, fun q hq => by cases hq; rfl, .refl⟩
  · exact ⟨_, rStep20_ok, fun q hq => by cases hq; rfl, .refl⟩
  · exact ⟨_, rStep21_ok, fun q hq => by cases hq; rfl, .refl⟩
  · exact ⟨_, rStep22_ok, fun q hq => by cases hq; rfl, .refl⟩
  · exact ⟨_, rStep23_ok, fun q hq => by cases hq; rfl, .refl⟩
  · exact ⟨_, rStep24_ok, fun q hq => by cases hq; rfl, .refl⟩

end Go.Proofs.YtofgbclopbmlcaaGreat



