/- Part 8 of the proof: TabStepA TabStepB TabStepC TabStep2 Alu Alu2 Alu3 StepRef Stepped CoreAsks. No statement is handed in here; conditions: none. -/
import Derived.Test.YtanaaecfghmmaaaG7
import Derived.Test.YtanaaecfghmmaaaG6
/- Steps of a cycle: what the reference says, kind by kind (printed by genstep.py). -/
namespace Go.Proofs.Ytanaaecfghmmaaa
open Go.Fw
set_option linter.unusedVariables false
set_option linter.unusedSimpArgs false
set_option linter.constructorNameAsVariable false
set_option maxRecDepth 100000

set_option maxHeartbeats 4000000 in
theorem rStep0_ok : GoodF Try.prog 93 (rstepS 0).spec := by
  have hT := tab_ok (fs := [(72, narrowS.spec), (73, wideS.spec)]) tree_ok
  have hP : SpecsOk Try.prog (tab tree [(72, narrowS.spec), (73, wideS.spec)]) := specs_cons rNarrow_ok (specs_cons rWide_ok specs_nil)
  refine (rstepS 0).good (fn := Try.f93) hT hP Try.func93 (by kernel_rfl) rfl fun (s : Stp) hq => ?_
  obtain ⟨sd, st, sf, sn⟩ := s
  have hd : sd = 0 := hq _ rfl
  clear hq
  subst hd
  repeat' first
    | (refine Go.mk ?_; conv => whnf)
    | refine Need.go ?_ ?_
    | refine NilG.go (fun _ => ?_) (fun _ => ?_)
    | refine Br.dec (fun _ => ?_) (fun _ => ?_)
    | refine Br.go (fun _ => ?_) (fun _ => ?_)
    | refine draw_go hT hP mixed ?_
    | refine round_go hT hP ?_
  all_goals clear hT hP
  all_goals (refine .mk [] [] _ rfl rfl rfl rfl rfl rfl (imm_int ?_))
  all_goals (show _ = stpE (0, st, sf, sn))
  all_goals (simp [stpE, mostI, useT, fitB, regB, wideB, narrowB] at *)
  all_goals first
    | omega
    | (simp_all; done)
    | (simp_all; omega)
    | (refine ⟨by omega, by omega, ?_, by omega, by omega⟩; rw [Bool.eq_iff_iff]; simp; omega)
    | skip

set_option maxHeartbeats 4000000 in
theorem rStep1_ok : GoodF Try.prog 93 (rstepS 1).spec := by
  have hT := tab_ok (fs := [(72, narrowS.spec), (73, wideS.spec)]) tree_ok
  have hP : SpecsOk Try.prog (tab tree [(72, narrowS.spec), (73, wideS.spec)]) := specs_cons rNarrow_ok (specs_cons rWide_ok specs_nil)
  refine (rstepS 1).good (fn := Try.f93) hT hP Try.func93 (by kernel_rfl) rfl fun (s : Stp) hq => ?_
  obtain ⟨sd, st, sf, sn⟩ := s
  have hd : sd = 1 := hq _ rfl
  clear hq
  subst hd
  repeat' first
    | (refine Go.mk ?_; conv => whnf)
    | refine Need.go ?_ ?_
    | refine NilG.go (fun _ => ?_) (fun _ => ?_)
    | refine Br.dec (fun _ => ?_) (fun _ => ?_)
    | refine Br.go (fun _ => ?_) (fun _ => ?_)
    | refine draw_go hT hP mixed ?_
    | refine round_go hT hP ?_
  all_goals clear hT hP
  all_goals (refine .mk [] [] _ rfl rfl rfl rfl rfl rfl (imm_int ?_))
  all_goals (show _ = stpE (1, st, sf, sn))
  all_goals (simp [stpE, mostI, useT, fitB, regB, wideB, narrowB] at *)
  all_goals first
    | omega
    | (simp_all; done)
    | (simp_all; omega)
    | (refine ⟨by omega, by omega, ?_, by omega, by omega⟩; rw [Bool.eq_iff_iff]; simp; omega)
    | skip

set_option maxHeartbeats 4000000 in
theorem rStep2_ok : GoodF Try.prog 93 (rstepS 2).spec := by
  have hT := tab_ok (fs := [(72, narrowS.spec), (73, wideS.spec)]) tree_ok
  have hP : SpecsOk Try.prog (tab tree [(72, narrowS.spec), (73, wideS.spec)]) := specs_cons rNarrow_ok (specs_cons rWide_ok specs_nil)
  refine (rstepS 2).good (fn := Try.f93) hT hP Try.func93 (by kernel_rfl) rfl fun (s : Stp) hq => ?_
  obtain ⟨sd, st, sf, sn⟩ := s
  have hd : sd = 2 := hq _ rfl
  clear hq
  subst hd
  repeat' first
    | (refine Go.mk ?_; conv => whnf)
    | refine Need.go ?_ ?_
    | refine NilG.go (fun _ => ?_) (fun _ => ?_)
    | refine Br.dec (fun _ => ?_) (fun _ => ?_)
    | refine Br.go (fun _ => ?_) (fun _ => ?_)
    | refine draw_go hT hP mixed ?_
    | refine round_go hT hP ?_
  all_goals clear hT hP
  all_goals (refine .mk [] [] _ rfl rfl rfl rfl rfl rfl (imm_int ?_))
  all_goals (show _ = stpE (2, st, sf, sn))
  all_goals (simp [stpE, mostI, useT, fitB, regB, wideB, narrowB] at *)
  all_goals first
    | omega
    | (simp_all; done)
    | (simp_all; omega)
    | (refine ⟨by omega, by omega, ?_, by omega, by omega⟩; rw [Bool.eq_iff_iff]; simp; omega)
    | skip

set_option maxHeartbeats 4000000 in
theorem rStep3_ok : GoodF Try.prog 93 (rstepS 3).spec := by
  have hT := tab_ok (fs := [(72, narrowS.spec), (73, wideS.spec)]) tree_ok
  have hP : SpecsOk Try.prog (tab tree [(72, narrowS.spec), (73, wideS.spec)]) := specs_cons rNarrow_ok (specs_cons rWide_ok specs_nil)
  refine (rstepS 3).good (fn := Try.f93) hT hP Try.func93 (by kernel_rfl) rfl fun (s : Stp) hq => ?_
  obtain ⟨sd, st, sf, sn⟩ := s
  have hd : sd = 3 := hq _ rfl
  clear hq
  subst hd
  repeat' first
    | (refine Go.mk ?_; conv => whnf)
    | refine Need.go ?_ ?_
    | refine NilG.go (fun _ => ?_) (fun _ => ?_)
    | refine Br.dec (fun _ => ?_) (fun _ => ?_)
    | refine Br.go (fun _ => ?_) (fun _ => ?_)
    | refine draw_go hT hP mixed ?_
    | refine round_go hT hP ?_
  all_goals clear hT hP
  all_goals (refine .mk [] [] _ rfl rfl rfl rfl rfl rfl (imm_int ?_))
  all_goals (show _ = stpE (3, st, sf, sn))
  all_goals (simp [stpE, mostI, useT, fitB, regB, wideB, narrowB] at *)
  all_goals first
    | omega
    | (simp_all; done)
    | (simp_all; omega)
    | (refine ⟨by omega, by omega, ?_, by omega, by omega⟩; rw [Bool.eq_iff_iff]; simp; omega)
    | skip

set_option maxHeartbeats 4000000 in
theorem rStep4_ok : GoodF Try.prog 93 (rstepS 4).spec := by
  have hT := tab_ok (fs := [(72, narrowS.spec), (73, wideS.spec)]) tree_ok
  have hP : SpecsOk Try.prog (tab tree [(72, narrowS.spec), (73, wideS.spec)]) := specs_cons rNarrow_ok (specs_cons rWide_ok specs_nil)
  refine (rstepS 4).good (fn := Try.f93) hT hP Try.func93 (by kernel_rfl) rfl fun (s : Stp) hq => ?_
  obtain ⟨sd, st, sf, sn⟩ := s
  have hd : sd = 4 := hq _ rfl
  clear hq
  subst hd
  repeat' first
    | (refine Go.mk ?_; conv => whnf)
    | refine Need.go ?_ ?_
    | refine NilG.go (fun _ => ?_) (fun _ => ?_)
    | refine Br.dec (fun _ => ?_) (fun _ => ?_)
    | refine Br.go (fun _ => ?_) (fun _ => ?_)
    | refine draw_go hT hP mixed ?_
    | refine round_go hT hP ?_
  all_goals clear hT hP
  all_goals (refine .mk [] [] _ rfl rfl rfl rfl rfl rfl (imm_int ?_))
  all_goals (show _ = stpE (4, st, sf, sn))
  all_goals (simp [stpE, mostI, useT, fitB, regB, wideB, narrowB] at *)
  all_goals first
    | omega
    | (simp_all; done)
    | (simp_all; omega)
    | (refine ⟨by omega, by omega, ?_, by omega, by omega⟩; rw [Bool.eq_iff_iff]; simp; omega)
    | skip

set_option maxHeartbeats 4000000 in
theorem rStep5_ok : GoodF Try.prog 93 (rstepS 5).spec := by
  have hT := tab_ok (fs := [(72, narrowS.spec), (73, wideS.spec)]) tree_ok
  have hP : SpecsOk Try.prog (tab tree [(72, narrowS.spec), (73, wideS.spec)]) := specs_cons rNarrow_ok (specs_cons rWide_ok specs_nil)
  refine (rstepS 5).good (fn := Try.f93) hT hP Try.func93 (by kernel_rfl) rfl fun (s : Stp) hq => ?_
  obtain ⟨sd, st, sf, sn⟩ := s
  have hd : sd = 5 := hq _ rfl
  clear hq
  subst hd
  repeat' first
    | (refine Go.mk ?_; conv => whnf)
    | refine Need.go ?_ ?_
    | refine NilG.go (fun _ => ?_) (fun _ => ?_)
    | refine Br.dec (fun _ => ?_) (fun _ => ?_)
    | refine Br.go (fun _ => ?_) (fun _ => ?_)
    | refine draw_go hT hP mixed ?_
    | refine round_go hT hP ?_
  all_goals clear hT hP
  all_goals (refine .mk [] [] _ rfl rfl rfl rfl rfl rfl (imm_int ?_))
  all_goals (show _ = stpE (5, st, sf, sn))
  all_goals (simp [stpE, mostI, useT, fitB, regB, wideB, narrowB] at *)
  all_goals first
    | omega
    | (simp_all; done)
    | (simp_all; omega)
    | (refine ⟨by omega, by omega, ?_, by omega, by omega⟩; rw [Bool.eq_iff_iff]; simp; omega)
    | skip

set_option maxHeartbeats 4000000 in
theorem rStep6_ok : GoodF Try.prog 93 (rstepS 6).spec := by
  have hT := tab_ok (fs := [(72, narrowS.spec), (73, wideS.spec)]) tree_ok
  have hP : SpecsOk Try.prog (tab tree [(72, narrowS.spec), (73, wideS.spec)]) := specs_cons rNarrow_ok (specs_cons rWide_ok specs_nil)
  refine (rstepS 6).good (fn := Try.f93) hT hP Try.func93 (by kernel_rfl) rfl fun (s : Stp) hq => ?_
  obtain ⟨sd, st, sf, sn⟩ := s
  have hd : sd = 6 := hq _ rfl
  clear hq
  subst hd
  repeat' first
    | (refine Go.mk ?_; conv => whnf)
    | refine Need.go ?_ ?_
    | refine NilG.go (fun _ => ?_) (fun _ => ?_)
    | refine Br.dec (fun _ => ?_) (fun _ => ?_)
    | refine Br.go (fun _ => ?_) (fun _ => ?_)
    | refine draw_go hT hP mixed ?_
    | refine round_go hT hP ?_
  all_goals clear hT hP
  all_goals (refine .mk [] [] _ rfl rfl rfl rfl rfl rfl (imm_int ?_))
  all_goals (show _ = stpE (6, st, sf, sn))
  all_goals (simp [stpE, mostI, useT, fitB, regB, wideB, narrowB] at *)
  all_goals first
    | omega
    | (simp_all; done)
    | (simp_all; omega)
    | (refine ⟨by omega, by omega, ?_, by omega, by omega⟩; rw [Bool.eq_iff_iff]; simp; omega)
    | skip

set_option maxHeartbeats 4000000 in
theorem rStep7_ok : GoodF Try.prog 93 (rstepS 7).spec := by
  have hT := tab_ok (fs := [(72, narrowS.spec), (73, wideS.spec)]) tree_ok
  have hP : SpecsOk Try.prog (tab tree [(72, narrowS.spec), (73, wideS.spec)]) := specs_cons rNarrow_ok (specs_cons rWide_ok specs_nil)
  refine (rstepS 7).good (fn := Try.f93) hT hP Try.func93 (by kernel_rfl) rfl fun (s : Stp) hq => ?_
  obtain ⟨sd, st, sf, sn⟩ := s
  have hd : sd = 7 := hq _ rfl
  clear hq
  subst hd
  repeat' first
    | (refine Go.mk ?_; conv => whnf)
    | refine Need.go ?_ ?_
    | refine NilG.go (fun _ => ?_) (fun _ => ?_)
    | refine Br.dec (fun _ => ?_) (fun _ => ?_)
    | refine Br.go (fun _ => ?_) (fun _ => ?_)
    | refine draw_go hT hP mixed ?_
    | refine round_go hT hP ?_
  all_goals clear hT hP
  all_goals (refine .mk [] [] _ rfl rfl rfl rfl rfl rfl (imm_int ?_))
  all_goals (show _ = stpE (7, st, sf, sn))
  all_goals (simp [stpE, mostI, useT, fitB, regB, wideB, narrowB] at *)
  all_goals first
    | omega
    | (simp_all; done)
    | (simp_all; omega)
    | (refine ⟨by omega, by omega, ?_, by omega, by omega⟩; rw [Bool.eq_iff_iff]; simp; omega)
    | skip

set_option maxHeartbeats 4000000 in
theorem rStep8_ok : GoodF Try.prog 93 (rstepS 8).spec := by
  have hT := tab_ok (fs := [(72, narrowS.spec), (73, wideS.spec)]) tree_ok
  have hP : SpecsOk Try.prog (tab tree [(72, narrowS.spec), (73, wideS.spec)]) := specs_cons rNarrow_ok (specs_cons rWide_ok specs_nil)
  refine (rstepS 8).good (fn := Try.f93) hT hP Try.func93 (by kernel_rfl) rfl fun (s : Stp) hq => ?_
  obtain ⟨sd, st, sf, sn⟩ := s
  have hd : sd = 8 := hq _ rfl
  clear hq
  subst hd
  repeat' first
    | (refine Go.mk ?_; conv => whnf)
    | refine Need.go ?_ ?_
    | refine NilG.go (fun _ => ?_) (fun _ => ?_)
    | refine Br.dec (fun _ => ?_) (fun _ => ?_)
    | refine Br.go (fun _ => ?_) (fun _ => ?_)
    | refine draw_go hT hP mixed ?_
    | refine round_go hT hP ?_
  all_goals clear hT hP
  all_goals (refine .mk [] [] _ rfl rfl rfl rfl rfl rfl (imm_int ?_))
  all_goals (show _ = stpE (8, st, sf, sn))
  all_goals (simp [stpE, mostI, useT, fitB, regB, wideB, narrowB] at *)
  all_goals first
    | omega
    | (simp_all; done)
    | (simp_all; omega)
    | (refine ⟨by omega, by omega, ?_, by omega, by omega⟩; rw [Bool.eq_iff_iff]; simp; omega)
    | skip

end Go.Proofs.Ytanaaecfghmmaaa

/- Steps of a cycle: what the reference says, kind by kind (printed by genstep.py). -/
namespace Go.Proofs.Ytanaaecfghmmaaa
open Go.Fw
set_option linter.unusedVariables false
set_option linter.unusedSimpArgs false
set_option linter.constructorNameAsVariable false
set_option maxRecDepth 100000

set_option maxHeartbeats 4000000 in
theorem rStep9_ok : GoodF Try.prog 93 (rstepS 9).spec := by
  have hT := tab_ok (fs := [(72, narrowS.spec), (73, wideS.spec)]) tree_ok
  have hP : SpecsOk Try.prog (tab tree [(72, narrowS.spec), (73, wideS.spec)]) := specs_cons rNarrow_ok (specs_cons rWide_ok specs_nil)
  refine (rstepS 9).good (fn := Try.f93) hT hP Try.func93 (by kernel_rfl) rfl fun (s : Stp) hq => ?_
  obtain ⟨sd, st, sf, sn⟩ := s
  have hd : sd = 9 := hq _ rfl
  clear hq
  subst hd
  repeat' first
    | (refine Go.mk ?_; conv => whnf)
    | refine Need.go ?_ ?_
    | refine NilG.go (fun _ => ?_) (fun _ => ?_)
    | refine Br.dec (fun _ => ?_) (fun _ => ?_)
    | refine Br.go (fun _ => ?_) (fun _ => ?_)
    | refine draw_go hT hP mixed ?_
    | refine round_go hT hP ?_
  all_goals clear hT hP
  all_goals (refine .mk [] [] _ rfl rfl rfl rfl rfl rfl (imm_int ?_))
  all_goals (show _ = stpE (9, st, sf, sn))
  all_goals (simp [stpE, mostI, useT, fitB, regB, wideB, narrowB] at *)
  all_goals first
    | omega
    | (simp_all; done)
    | (simp_all; omega)
    | (refine ⟨by omega, by omega, ?_, by omega, by omega⟩; rw [Bool.eq_iff_iff]; simp; omega)
    | skip

set_option maxHeartbeats 4000000 in
theorem rStep10_ok : GoodF Try.prog 93 (rstepS 10).spec := by
  have hT := tab_ok (fs := [(72, narrowS.spec), (73, wideS.spec)]) tree_ok
  have hP : SpecsOk Try.prog (tab tree [(72, narrowS.spec), (73, wideS.spec)]) := specs_cons rNarrow_ok (specs_cons rWide_ok specs_nil)
  refine (rstepS 10).good (fn := Try.f93) hT hP Try.func93 (by kernel_rfl) rfl fun (s : Stp) hq => ?_
  obtain ⟨sd, st, sf, sn⟩ := s
  have hd : sd = 10 := hq _ rfl
  clear hq
  subst hd
  repeat' first
    | (refine Go.mk ?_; conv => whnf)
    | refine Need.go ?_ ?_
    | refine NilG.go (fun _ => ?_) (fun _ => ?_)
    | refine Br.dec (fun _ => ?_) (fun _ => ?_)
    | refine Br.go (fun _ => ?_) (fun _ => ?_)
    | refine draw_go hT hP mixed ?_
    | refine round_go hT hP ?_
  all_goals clear hT hP
  all_goals (refine .mk [] [] _ rfl rfl rfl rfl rfl rfl (imm_int ?_))
  all_goals (show _ = stpE (10, st, sf, sn))
  all_goals (simp [stpE, mostI, useT, fitB, regB, wideB, narrowB] at *)
  all_goals first
    | omega
    | (simp_all; done)
    | (simp_all; omega)
    | (refine ⟨by omega, by omega, ?_, by omega, by omega⟩; rw [Bool.eq_iff_iff]; simp; omega)
    | skip

set_option maxHeartbeats 4000000 in
theorem rStep11_ok : GoodF Try.prog 93 (rstepS 11).spec := by
  have hT := tab_ok (fs := [(72, narrowS.spec), (73, wideS.spec)]) tree_ok
  have hP : SpecsOk Try.prog (tab tree [(72, narrowS.spec), (73, wideS.spec)]) := specs_cons rNarrow_ok (specs_cons rWide_ok specs_nil)
  refine (rstepS 11).good (fn := Try.f93) hT hP Try.func93 (by kernel_rfl) rfl fun (s : Stp) hq => ?_
  obtain ⟨sd, st, sf, sn⟩ := s
  have hd : sd = 11 := hq _ rfl
  clear hq
  subst hd
  repeat' first
    | (refine Go.mk ?_; conv => whnf)
    | refine Need.go ?_ ?_
    | refine NilG.go (fun _ => ?_) (fun _ => ?_)
    | refine Br.dec (fun _ => ?_) (fun _ => ?_)
    | refine Br.go (fun _ => ?_) (fun _ => ?_)
    | refine draw_go hT hP mixed ?_
    | refine round_go hT hP ?_
  all_goals clear hT hP
  all_goals (refine .mk [] [] _ rfl rfl rfl rfl rfl rfl (imm_int ?_))
  all_goals (show _ = stpE (11, st, sf, sn))
  all_goals (simp [stpE, mostI, useT, fitB, regB, wideB, narrowB] at *)
  all_goals first
    | omega
    | (simp_all; done)
    | (simp_all; omega)
    | (refine ⟨by omega, by omega, ?_, by omega, by omega⟩; rw [Bool.eq_iff_iff]; simp; omega)
    | skip

set_option maxHeartbeats 4000000 in
theorem rStep12_ok : GoodF Try.prog 93 (rstepS 12).spec := by
  have hT := tab_ok (fs := [(72, narrowS.spec), (73, wideS.spec)]) tree_ok
  have hP : SpecsOk Try.prog (tab tree [(72, narrowS.spec), (73, wideS.spec)]) := specs_cons rNarrow_ok (specs_cons rWide_ok specs_nil)
  refine (rstepS 12).good (fn := Try.f93) hT hP Try.func93 (by kernel_rfl) rfl fun (s : Stp) hq => ?_
  obtain ⟨sd, st, sf, sn⟩ := s
  have hd : sd = 12 := hq _ rfl
  clear hq
  subst hd
  repeat' first
    | (refine Go.mk ?_; conv => whnf)
    | refine Need.go ?_ ?_
    | refine NilG.go (fun _ => ?_) (fun _ => ?_)
    | refine Br.dec (fun _ => ?_) (fun _ => ?_)
    | refine Br.go (fun _ => ?_) (fun _ => ?_)
    | refine draw_go hT hP mixed ?_
    | refine round_go hT hP ?_
  all_goals clear hT hP
  all_goals (refine .mk [] [] _ rfl rfl rfl rfl rfl rfl (imm_int ?_))
  all_goals (show _ = stpE (12, st, sf, sn))
  all_goals (simp [stpE, mostI, useT, fitB, regB, wideB, narrowB] at *)
  all_goals first
    | omega
    | (simp_all; done)
    | (simp_all; omega)
    | (refine ⟨by omega, by omega, ?_, by omega, by omega⟩; rw [Bool.eq_iff_iff]; simp; omega)
    | skip

set_option maxHeartbeats 4000000 in
theorem rStep13_ok : GoodF Try.prog 93 (rstepS 13).spec := by
  have hT := tab_ok (fs := [(72, narrowS.spec), (73, wideS.spec)]) tree_ok
  have hP : SpecsOk Try.prog (tab tree [(72, narrowS.spec), (73, wideS.spec)]) := specs_cons rNarrow_ok (specs_cons rWide_ok specs_nil)
  refine (rstepS 13).good (fn := Try.f93) hT hP Try.func93 (by kernel_rfl) rfl fun (s : Stp) hq => ?_
  obtain ⟨sd, st, sf, sn⟩ := s
  have hd : sd = 13 := hq _ rfl
  clear hq
  subst hd
  repeat' first
    | (refine Go.mk ?_; conv => whnf)
    | refine Need.go ?_ ?_
    | refine NilG.go (fun _ => ?_) (fun _ => ?_)
    | refine Br.dec (fun _ => ?_) (fun _ => ?_)
    | refine Br.go (fun _ => ?_) (fun _ => ?_)
    | refine draw_go hT hP mixed ?_
    | refine round_go hT hP ?_
  all_goals clear hT hP
  all_goals (refine .mk [] [] _ rfl rfl rfl rfl rfl rfl (imm_int ?_))
  all_goals (show _ = stpE (13, st, sf, sn))
  all_goals (simp [stpE, mostI, useT, fitB, regB, wideB, narrowB] at *)
  all_goals first
    | omega
    | (simp_all; done)
    | (simp_all; omega)
    | (refine ⟨by omega, by omega, ?_, by omega, by omega⟩; rw [Bool.eq_iff_iff]; simp; omega)
    | skip

set_option maxHeartbeats 4000000 in
theorem rStep14_ok : GoodF Try.prog 93 (rstepS 14).spec := by
  have hT := tab_ok (fs := [(72, narrowS.spec), (73, wideS.spec)]) tree_ok
  have hP : SpecsOk Try.prog (tab tree [(72, narrowS.spec), (73, wideS.spec)]) := specs_cons rNarrow_ok (specs_cons rWide_ok specs_nil)
  refine (rstepS 14).good (fn := Try.f93) hT hP Try.func93 (by kernel_rfl) rfl fun (s : Stp) hq => ?_
  obtain ⟨sd, st, sf, sn⟩ := s
  have hd : sd = 14 := hq _ rfl
  clear hq
  subst hd
  repeat' first
    | (refine Go.mk ?_; conv => whnf)
    | refine Need.go ?_ ?_
    | refine NilG.go (fun _ => ?_) (fun _ => ?_)
    | refine Br.dec (fun _ => ?_) (fun _ => ?_)
    | refine Br.go (fun _ => ?_) (fun _ => ?_)
    | refine draw_go hT hP mixed ?_
    | refine round_go hT hP ?_
  all_goals clear hT hP
  all_goals (refine .mk [] [] _ rfl rfl rfl rfl rfl rfl (imm_int ?_))
  all_goals (show _ = stpE (14, st, sf, sn))
  all_goals (simp [stpE, mostI, useT, fitB, regB, wideB, narrowB] at *)
  all_goals first
    | omega
    | (simp_all; done)
    | (simp_all; omega)
    | (refine ⟨by omega, by omega, ?_, by omega, by omega⟩; rw [Bool.eq_iff_iff]; simp; omega)
    | skip

set_option maxHeartbeats 4000000 in
theorem rStep15_ok : GoodF Try.prog 93 (rstepS 15).spec := by
  have hT := tab_ok (fs := [(72, narrowS.spec), (73, wideS.spec)]) tree_ok
  have hP : SpecsOk Try.prog (tab tree [(72, narrowS.spec), (73, wideS.spec)]) := specs_cons rNarrow_ok (specs_cons rWide_ok specs_nil)
  refine (rstepS 15).good (fn := Try.f93) hT hP Try.func93 (by kernel_rfl) rfl fun (s : Stp) hq => ?_
  obtain ⟨sd, st, sf, sn⟩ := s
  have hd : sd = 15 := hq _ rfl
  clear hq
  subst hd
  repeat' first
    | (refine Go.mk ?_; conv => whnf)
    | refine Need.go ?_ ?_
    | refine NilG.go (fun _ => ?_) (fun _ => ?_)
    | refine Br.dec (fun _ => ?_) (fun _ => ?_)
    | refine Br.go (fun _ => ?_) (fun _ => ?_)
    | refine draw_go hT hP mixed ?_
    | refine round_go hT hP ?_
  all_goals clear hT hP
  all_goals (refine .mk [] [] _ rfl rfl rfl rfl rfl rfl (imm_int ?_))
  all_goals (show _ = stpE (15, st, sf, sn))
  all_goals (simp [stpE, mostI, useT, fitB, regB, wideB, narrowB] at *)
  all_goals first
    | omega
    | (simp_all; done)
    | (simp_all; omega)
    | (refine ⟨by omega, by omega, ?_, by omega, by omega⟩; rw [Bool.eq_iff_iff]; simp; omega)
    | skip

set_option maxHeartbeats 4000000 in
theorem rStep16_ok : GoodF Try.prog 93 (rstepS 16).spec := by
  have hT := tab_ok (fs := [(72, narrowS.spec), (73, wideS.spec)]) tree_ok
  have hP : SpecsOk Try.prog (tab tree [(72, narrowS.spec), (73, wideS.spec)]) := specs_cons rNarrow_ok (specs_cons rWide_ok specs_nil)
  refine (rstepS 16).good (fn := Try.f93) hT hP Try.func93 (by kernel_rfl) rfl fun (s : Stp) hq => ?_
  obtain ⟨sd, st, sf, sn⟩ := s
  have hd : sd = 16 := hq _ rfl
  clear hq
  subst hd
  repeat' first
    | (refine Go.mk ?_; conv => whnf)
    | refine Need.go ?_ ?_
    | refine NilG.go (fun _ => ?_) (fun _ => ?_)
    | refine Br.dec (fun _ => ?_) (fun _ => ?_)
    | refine Br.go (fun _ => ?_) (fun _ => ?_)
    | refine draw_go hT hP mixed ?_
    | refine round_go hT hP ?_
  all_goals clear hT hP
  all_goals (refine .mk [] [] _ rfl rfl rfl rfl rfl rfl (imm_int ?_))
  all_goals (show _ = stpE (16, st, sf, sn))
  all_goals (simp [stpE, mostI, useT, fitB, regB, wideB, narrowB] at *)
  all_goals first
    | omega
    | (simp_all; done)
    | (simp_all; omega)
    | (refine ⟨by omega, by omega, ?_, by omega, by omega⟩; rw [Bool.eq_iff_iff]; simp; omega)
    | skip

set_option maxHeartbeats 4000000 in
theorem rStep17_ok : GoodF Try.prog 93 (rstepS 17).spec := by
  have hT := tab_ok (fs := [(72, narrowS.spec), (73, wideS.spec)]) tree_ok
  have hP : SpecsOk Try.prog (tab tree [(72, narrowS.spec), (73, wideS.spec)]) := specs_cons rNarrow_ok (specs_cons rWide_ok specs_nil)
  refine (rstepS 17).good (fn := Try.f93) hT hP Try.func93 (by kernel_rfl) rfl fun (s : Stp) hq => ?_
  obtain ⟨sd, st, sf, sn⟩ := s
  have hd : sd = 17 := hq _ rfl
  clear hq
  subst hd
  repeat' first
    | (refine Go.mk ?_; conv => whnf)
    | refine Need.go ?_ ?_
    | refine NilG.go (fun _ => ?_) (fun _ => ?_)
    | refine Br.dec (fun _ => ?_) (fun _ => ?_)
    | refine Br.go (fun _ => ?_) (fun _ => ?_)
    | refine draw_go hT hP mixed ?_
    | refine round_go hT hP ?_
  all_goals clear hT hP
  all_goals (refine .mk [] [] _ rfl rfl rfl rfl rfl rfl (imm_int ?_))
  all_goals (show _ = stpE (17, st, sf, sn))
  all_goals (simp [stpE, mostI, useT, fitB, regB, wideB, narrowB] at *)
  all_goals first
    | omega
    | (simp_all; done)
    | (simp_all; omega)
    | (refine ⟨by omega, by omega, ?_, by omega, by omega⟩; rw [Bool.eq_iff_iff]; simp; omega)
    | skip

end Go.Proofs.Ytanaaecfghmmaaa

/- Steps of a cycle: what the reference says, kind by kind (printed by genstep.py). -/
namespace Go.Proofs.Ytanaaecfghmmaaa
open Go.Fw
set_option linter.unusedVariables false
set_option linter.unusedSimpArgs false
set_option linter.constructorNameAsVariable false
set_option maxRecDepth 100000

set_option maxHeartbeats 4000000 in
theorem rStep18_ok : GoodF Try.prog 93 (rstepS 18).spec := by
  have hT := tab_ok (fs := [(72, narrowS.spec), (73, wideS.spec)]) tree_ok
  have hP : SpecsOk Try.prog (tab tree [(72, narrowS.spec), (73, wideS.spec)]) := specs_cons rNarrow_ok (specs_cons rWide_ok specs_nil)
  refine (rstepS 18).good (fn := Try.f93) hT hP Try.func93 (by kernel_rfl) rfl fun (s : Stp) hq => ?_
  obtain ⟨sd, st, sf, sn⟩ := s
  have hd : sd = 18 := hq _ rfl
  clear hq
  subst hd
  repeat' first
    | (refine Go.mk ?_; conv => whnf)
    | refine Need.go ?_ ?_
    | refine NilG.go (fun _ => ?_) (fun _ => ?_)
    | refine Br.dec (fun _ => ?_) (fun _ => ?_)
    | refine Br.go (fun _ => ?_) (fun _ => ?_)
    | refine draw_go hT hP mixed ?_
    | refine round_go hT hP ?_
  all_goals clear hT hP
  all_goals (refine .mk [] [] _ rfl rfl rfl rfl rfl rfl (imm_int ?_))
  all_goals (show _ = stpE (18, st, sf, sn))
  all_goals (simp [stpE, mostI, useT, fitB, regB, wideB, narrowB] at *)
  all_goals first
    | omega
    | (simp_all; done)
    | (simp_all; omega)
    | (refine ⟨by omega, by omega, ?_, by omega, by omega⟩; rw [Bool.eq_iff_iff]; simp; omega)
    | skip

set_option maxHeartbeats 4000000 in
theorem rStep19_ok : GoodF Try.prog 93 (rstepS 19).spec := by
  have hT := tab_ok (fs := [(72, narrowS.spec), (73, wideS.spec)]) tree_ok
  have hP : SpecsOk Try.prog (tab tree [(72, narrowS.spec), (73, wideS.spec)]) := specs_cons rNarrow_ok (specs_cons rWide_ok specs_nil)
  refine (rstepS 19).good (fn := Try.f93) hT hP Try.func93 (by kernel_rfl) rfl fun (s : Stp) hq => ?_
  obtain ⟨sd, st, sf, sn⟩ := s
  have hd : sd = 19 := hq _ rfl
  clear hq
  subst hd
  repeat' first
    | (refine Go.mk ?_; conv => whnf)
    | refine Need.go ?_ ?_
    | refine NilG.go (fun _ => ?_) (fun _ => ?_)
    | refine Br.dec (fun _ => ?_) (fun _ => ?_)
    | refine Br.go (fun _ => ?_) (fun _ => ?_)
    | refine draw_go hT hP mixed ?_
    | refine round_go hT hP ?_
  all_goals clear hT hP
  all_goals (refine .mk [] [] _ rfl rfl rfl rfl rfl rfl (imm_int ?_))
  all_goals (show _ = stpE (19, st, sf, sn))
  all_goals (simp [stpE, mostI, useT, fitB, regB, wideB, narrowB] at *)
  all_goals first
    | omega
    | (simp_all; done)
    | (simp_all; omega)
    | (refine ⟨by omega, by omega, ?_, by omega, by omega⟩; rw [Bool.eq_iff_iff]; simp; omega)
    | skip

set_option maxHeartbeats 4000000 in
theorem rStep20_ok : GoodF Try.prog 93 (rstepS 20).spec := by
  have hT := tab_ok (fs := [(72, narrowS.spec), (73, wideS.spec)]) tree_ok
  have hP : SpecsOk Try.prog (tab tree [(72, narrowS.spec), (73, wideS.spec)]) := specs_cons rNarrow_ok (specs_cons rWide_ok specs_nil)
  refine (rstepS 20).good (fn := Try.f93) hT hP Try.func93 (by kernel_rfl) rfl fun (s : Stp) hq => ?_
  obtain ⟨sd, st, sf, sn⟩ := s
  have hd : sd = 20 := hq _ rfl
  clear hq
  subst hd
  repeat' first
    | (refine Go.mk ?_; conv => whnf)
    | refine Need.go ?_ ?_
    | refine NilG.go (fun _ => ?_) (fun _ => ?_)
    | refine Br.dec (fun _ => ?_) (fun _ => ?_)
    | refine Br.go (fun _ => ?_) (fun _ => ?_)
    | refine draw_go hT hP mixed ?_
    | refine round_go hT hP ?_
  all_goals clear hT hP
  all_goals (refine .mk [] [] _ rfl rfl rfl rfl rfl rfl (imm_int ?_))
  all_goals (show _ = stpE (20, st, sf, sn))
  all_goals (simp [stpE, mostI, useT, fitB, regB, wideB, narrowB] at *)
  all_goals first
    | omega
    | (simp_all; done)
    | (simp_all; omega)
    | (refine ⟨by omega, by omega, ?_, by omega, by omega⟩; rw [Bool.eq_iff_iff]; simp; omega)
    | skip

set_option maxHeartbeats 4000000 in
theorem rStep21_ok : GoodF Try.prog 93 (rstepS 21).spec := by
  have hT := tab_ok (fs := [(72, narrowS.spec), (73, wideS.spec)]) tree_ok
  have hP : SpecsOk Try.prog (tab tree [(72, narrowS.spec), (73, wideS.spec)]) := specs_cons rNarrow_ok (specs_cons rWide_ok specs_nil)
  refine (rstepS 21).good (fn := Try.f93) hT hP Try.func93 (by kernel_rfl) rfl fun (s : Stp) hq => ?_
  obtain ⟨sd, st, sf, sn⟩ := s
  have hd : sd = 21 := hq _ rfl
  clear hq
  subst hd
  repeat' first
    | (refine Go.mk ?_; conv => whnf)
    | refine Need.go ?_ ?_
    | refine NilG.go (fun _ => ?_) (fun _ => ?_)
    | refine Br.dec (fun _ => ?_) (fun _ => ?_)
    | refine Br.go (fun _ => ?_) (fun _ => ?_)
    | refine draw_go hT hP mixed ?_
    | refine round_go hT hP ?_
  all_goals clear hT hP
  all_goals (refine .mk [] [] _ rfl rfl rfl rfl rfl rfl (imm_int ?_))
  all_goals (show _ = stpE (21, st, sf, sn))
  all_goals (simp [stpE, mostI, useT, fitB, regB, wideB, narrowB] at *)
  all_goals first
    | omega
    | (simp_all; done)
    | (simp_all; omega)
    | (refine ⟨by omega, by omega, ?_, by omega, by omega⟩; rw [Bool.eq_iff_iff]; simp; omega)
    | skip

set_option maxHeartbeats 4000000 in
theorem rStep22_ok : GoodF Try.prog 93 (rstepS 22).spec := by
  have hT := tab_ok (fs := [(72, narrowS.spec), (73, wideS.spec)]) tree_ok
  have hP : SpecsOk Try.prog (tab tree [(72, narrowS.spec), (73, wideS.spec)]) := specs_cons rNarrow_ok (specs_cons rWide_ok specs_nil)
  refine (rstepS 22).good (fn := Try.f93) hT hP Try.func93 (by kernel_rfl) rfl fun (s : Stp) hq => ?_
  obtain ⟨sd, st, sf, sn⟩ := s
  have hd : sd = 22 := hq _ rfl
  clear hq
  subst hd
  repeat' first
    | (refine Go.mk ?_; conv => whnf)
    | refine Need.go ?_ ?_
    | refine NilG.go (fun _ => ?_) (fun _ => ?_)
    | refine Br.dec (fun _ => ?_) (fun _ => ?_)
    | refine Br.go (fun _ => ?_) (fun _ => ?_)
    | refine draw_go hT hP mixed ?_
    | refine round_go hT hP ?_
  all_goals clear hT hP
  all_goals (refine .mk [] [] _ rfl rfl rfl rfl rfl rfl (imm_int ?_))
  all_goals (show _ = stpE (22, st, sf, sn))
  all_goals (simp [stpE, mostI, useT, fitB, regB, wideB, narrowB] at *)
  all_goals first
    | omega
    | (simp_all; done)
    | (simp_all; omega)
    | (refine ⟨by omega, by omega, ?_, by omega, by omega⟩; rw [Bool.eq_iff_iff]; simp; omega)
    | skip

set_option maxHeartbeats 4000000 in
theorem rStep23_ok : GoodF Try.prog 93 (rstepS 23).spec := by
  have hT := tab_ok (fs := [(72, narrowS.spec), (73, wideS.spec)]) tree_ok
  have hP : SpecsOk Try.prog (tab tree [(72, narrowS.spec), (73, wideS.spec)]) := specs_cons rNarrow_ok (specs_cons rWide_ok specs_nil)
  refine (rstepS 23).good (fn := Try.f93) hT hP Try.func93 (by kernel_rfl) rfl fun (s : Stp) hq => ?_
  obtain ⟨sd, st, sf, sn⟩ := s
  have hd : sd = 23 := hq _ rfl
  clear hq
  subst hd
  repeat' first
    | (refine Go.mk ?_; conv => whnf)
    | refine Need.go ?_ ?_
    | refine NilG.go (fun _ => ?_) (fun _ => ?_)
    | refine Br.dec (fun _ => ?_) (fun _ => ?_)
    | refine Br.go (fun _ => ?_) (fun _ => ?_)
    | refine draw_go hT hP mixed ?_
    | refine round_go hT hP ?_
  all_goals clear hT hP
  all_goals (refine .mk [] [] _ rfl rfl rfl rfl rfl rfl (imm_int ?_))
  all_goals (show _ = stpE (23, st, sf, sn))
  all_goals (simp [stpE, mostI, useT, fitB, regB, wideB, narrowB] at *)
  all_goals first
    | omega
    | (simp_all; done)
    | (simp_all; omega)
    | (refine ⟨by omega, by omega, ?_, by omega, by omega⟩; rw [Bool.eq_iff_iff]; simp; omega)
    | skip

set_option maxHeartbeats 4000000 in
theorem rStep24_ok : GoodF Try.prog 93 (rstepS 24).spec := by
  have hT := tab_ok (fs := [(72, narrowS.spec), (73, wideS.spec)]) tree_ok
  have hP : SpecsOk Try.prog (tab tree [(72, narrowS.spec), (73, wideS.spec)]) := specs_cons rNarrow_ok (specs_cons rWide_ok specs_nil)
  refine (rstepS 24).good (fn := Try.f93) hT hP Try.func93 (by kernel_rfl) rfl fun (s : Stp) hq => ?_
  obtain ⟨sd, st, sf, sn⟩ := s
  have hd : sd = 24 := hq _ rfl
  clear hq
  subst hd
  repeat' first
    | (refine Go.mk ?_; conv => whnf)
    | refine Need.go ?_ ?_
    | refine NilG.go (fun _ => ?_) (fun _ => ?_)
    | refine Br.dec (fun _ => ?_) (fun _ => ?_)
    | refine Br.go (fun _ => ?_) (fun _ => ?_)
    | refine draw_go hT hP mixed ?_
    | refine round_go hT hP ?_
  all_goals clear hT hP
  all_goals (refine .mk [] [] _ rfl rfl rfl rfl rfl rfl (imm_int ?_))
  all_goals (show _ = stpE (24, st, sf, sn))
  all_goals (simp [stpE, mostI, useT, fitB, regB, wideB, narrowB] at *)
  all_goals first
    | omega
    | (simp_all; done)
    | (simp_all; omega)
    | (refine ⟨by omega, by omega, ?_, by omega, by omega⟩; rw [Bool.eq_iff_iff]; simp; omega)
    | skip
theorem rStepX_ok : GoodF Try.prog 93 rstepXS.spec := by
  have hT := tab_ok (fs := [(72, narrowS.spec), (73, wideS.spec)]) tree_ok
  have hP : SpecsOk Try.prog (tab tree [(72, narrowS.spec), (73, wideS.spec)]) := specs_cons rNarrow_ok (specs_cons rWide_ok specs_nil)
  refine rstepXS.good (fn := Try.f93) hT hP Try.func93 (by kernel_rfl) rfl fun (s : Stp) hq => ?_
  obtain ⟨sd, st, sf, sn⟩ := s
  have hx : sd < 0 ∨ sd > 24 := hq _ rfl
  clear hq
  repeat' first
    | (exfalso; rename_i g h; exact do_in hx g h)
    | (refine Go.mk ?_; conv => whnf)
    | refine Need.go ?_ ?_
    | refine NilG.go (fun _ => ?_) (fun _ => ?_)
    | refine Br.dec (fun _ => ?_) (fun _ => ?_)
    | refine Br.go (fun _ => ?_) (fun _ => ?_)
    | refine draw_go hT hP mixed ?_
    | refine round_go hT hP ?_
  all_goals clear hT hP
  all_goals (refine .mk [] [] _ rfl rfl rfl rfl rfl rfl (imm_int ?_))
  all_goals (show 8 = stpE (sd, st, sf, sn); unfold stpE)
  all_goals (rw [if_pos]; show sd < 0 ∨ sd ≥ 25; omega)

end Go.Proofs.Ytanaaecfghmmaaa

/- Steps of a cycle: what the reference says. -/
namespace Go.Proofs.Ytanaaecfghmmaaa
open Go.Fw
set_option linter.unusedVariables false
set_option linter.unusedSimpArgs false
set_option linter.constructorNameAsVariable false
set_option maxRecDepth 100000

theorem doings (d : Int) : (d < 0 ∨ d > 24) ∨ d = 0 ∨ d = 1 ∨ d = 2 ∨ d = 3 ∨ d = 4 ∨ d = 5 ∨ d = 6 ∨ d = 7 ∨ d = 8 ∨ d = 9 ∨ d = 10 ∨ d = 11 ∨ d = 12 ∨ d = 13 ∨ d = 14 ∨ d = 15 ∨ d = 16 ∨ d = 17 ∨ d = 18 ∨ d = 19 ∨ d = 20 ∨ d = 21 ∨ d = 22 ∨ d = 23 ∨ d = 24 := by omega
theorem rStep_ok : GoodF Try.prog 93 tstepS.spec := by
  refine GoodF.sel rStepX_ok fun (s, _) hp => ?_
  obtain ⟨sd, st, sf, sn⟩ := s
  clear hp
  show ∃ o1 : Args [gStep] → Option Prop × AV × List Blk, _
  rcases doings sd with hx | rfl | rfl | rfl | rfl | rfl | rfl | rfl | rfl | rfl | rfl | rfl | rfl | rfl | rfl | rfl | rfl | rfl | rfl | rfl | rfl | rfl | rfl | rfl | rfl | rfl
  · exact ⟨_, rStepX_ok, fun q hq => by cases hq; exact hx, .refl⟩
  · exact ⟨_, rStep0_ok, fun q hq => by cases hq; rfl, .refl⟩
  · exact ⟨_, rStep1_ok, fun q hq => by cases hq; rfl, .refl⟩
  · exact ⟨_, rStep2_ok, fun q hq => by cases hq; rfl, .refl⟩
  · exact ⟨_, rStep3_ok, fun q hq => by cases hq; rfl, .refl⟩
  · exact ⟨_, rStep4_ok, fun q hq => by cases hq; rfl, .refl⟩
  · exact ⟨_, rStep5_ok, fun q hq => by cases hq; rfl, .refl⟩
  · exact ⟨_, rStep6_ok, fun q hq => by cases hq; rfl, .refl⟩
  · exact ⟨_, rStep7_ok, fun q hq => by cases hq; rfl, .refl⟩
  · exact ⟨_, rStep8_ok, fun q hq => by cases hq; rfl, .refl⟩
  · exact ⟨_, rStep9_ok, fun q hq => by cases hq; rfl, .refl⟩
  · exact ⟨_, rStep10_ok, fun q hq => by cases hq; rfl, .refl⟩
  · exact ⟨_, rStep11_ok, fun q hq => by cases hq; rfl, .refl⟩
  · exact ⟨_, rStep12_ok, fun q hq => by cases hq; rfl, .refl⟩
  · exact ⟨_, rStep13_ok, fun q hq => by cases hq; rfl, .refl⟩
  · exact ⟨_, rStep14_ok, fun q hq => by cases hq; rfl, .refl⟩
  · exact ⟨_, rStep15_ok, fun q hq => by cases hq; rfl, .refl⟩
  · exact ⟨_, rStep16_ok, fun q hq => by cases hq; rfl, .refl⟩
  · exact ⟨_, rStep17_ok, fun q hq => by cases hq; rfl, .refl⟩
  · exact ⟨_, rStep18_ok, fun q hq => by cases hq; rfl, .refl⟩
  · exact ⟨_, rStep19_ok, fun q hq => by cases hq; rfl, .refl⟩
  · exact ⟨_, rStep20_ok, fun q hq => by cases hq; rfl, .refl⟩
  · exact ⟨_, rStep21_ok, fun q hq => by cases hq; rfl, .refl⟩
  · exact ⟨_, rStep22_ok, fun q hq => by cases hq; rfl, .refl⟩
  · exact ⟨_, rStep23_ok, fun q hq => by cases hq; rfl, .refl⟩
  · exact ⟨_, rStep24_ok, fun q hq => by cases hq; rfl, .refl⟩

end Go.Proofs.Ytanaaecfghmmaaa

/- The steps of a processor: the small functions. -/
namespace Go.Proofs.Ytanaaecfghmmaaa
open Go.Fw
set_option linter.unusedVariables false
set_option linter.unusedSimpArgs false
set_option maxRecDepth 100000

theorem land1e (c : Int) : land .i64 c 1 = c % 2 := by
  have e : (BitVec.ofInt 64 c &&& BitVec.ofInt 64 1).toNat = (BitVec.ofInt 64 c).toNat % 2 := by
    rw [BitVec.toNat_and]
    exact Nat.and_one_is_mod _
  show IntKind.i64.wrap (((BitVec.ofInt 64 c &&& BitVec.ofInt 64 1).toNat : Nat) : Int) = _
  rw [e, ofInt_toNat, w64 (by omega) (by omega)]
  unfold u64
  omega
theorem shr_lit (x : Int) (k : Nat) (h : k ≤ 64) : shr .i64 x (k : Int) = x / 2 ^ k := by
  show x.fdiv (2 ^ (min ((k : Int).toNat) 64)) = _
  have : min ((k : Int).toNat) 64 = k := by omega
  rw [this]
  exact Int.fdiv_eq_ediv_of_nonneg _ (by have : (0 : Int) ≤ ((2 ^ k : Nat) : Int) := Int.natCast_nonneg _; simpa using this)
theorem shr8 (x : Int) : shr .i64 x 8 = x / 256 := shr_lit x 8 (by omega)
theorem shr1 (x : Int) : shr .i64 x 1 = x / 2 := shr_lit x 1 (by omega)
theorem shr7 (x : Int) : shr .i64 x 7 = x / 128 := shr_lit x 7 (by omega)
theorem width8 : widthF 8 = 8 := by decide
theorem p8 : (2 : Int) ^ (8 : Int).toNat = 256 := by decide
theorem shl1 (x : Int) (h : 0 ≤ x ∧ x < 65536) : shl .i64 x 1 = 2 * x := by
  show IntKind.i64.wrap (x * 2 ^ (min ((1 : Int).toNat) 64)) = _
  have : min ((1 : Int).toNat) 64 = 1 := by decide
  rw [this, w64 (by omega) (by omega)]; omega
theorem shl8 (x : Int) (h : 0 ≤ x ∧ x < 65536) : shl .i64 x 8 = 256 * x := by
  show IntKind.i64.wrap (x * 2 ^ (min ((8 : Int).toNat) 64)) = _
  have : min ((8 : Int).toNat) 64 = 8 := by decide
  rw [this, w64 (by omega) (by omega)]; omega
theorem shl18 : shl .i64 1 8 = 256 := by decide
theorem or_low (x c : Int) (h : 0 ≤ x ∧ x < 256) (hc : c = 0 ∨ c = 1) : lor .i64 (2 * x) c = 2 * x + c := by
  rcases hc with rfl | rfl
  · exact fin256 (fun x => lor .i64 (2 * x) 0 = 2 * x + 0) (by decide +kernel) x h.1 h.2
  · exact fin256 (fun x => lor .i64 (2 * x) 1 = 2 * x + 1) (by decide +kernel) x h.1 h.2
theorem or_high (x c : Int) (h : 0 ≤ x ∧ x < 256) (hc : c = 0 ∨ c = 1) : lor .i64 x (256 * c) = x + 256 * c := by
  rcases hc with rfl | rfl
  · exact fin256 (fun x => lor .i64 x (256 * 0) = x + 256 * 0) (by decide +kernel) x h.1 h.2
  · exact fin256 (fun x => lor .i64 x (256 * 1) = x + 256 * 1) (by decide +kernel) x h.1 h.2

abbrev bitC (c : Int) : Prop := c = 0 ∨ c = 1
def okAB (a b c n : Int) : Prop := (0 ≤ a ∧ a < 256) ∧ (0 ≤ b ∧ b < 256) ∧ bitC c ∧ n = 8
def add8S : PSpec := ⟨[gi, gi, gi, gi], fun (a, b, c, n, _) => (some (okAB a b c n), .tup [I1 ((a + b + c) % 256), I1 ((a + b + c) / 256)], [])⟩
theorem add8_ok : GoodF Try.prog 131 add8S.spec := by
  have hT := tab_ok (fs := [(104, widthS.spec), (79, lowM.spec)]) tree_ok
  have hP : SpecsOk Try.prog (tab tree [(104, widthS.spec), (79, lowM.spec)]) := specs_cons width_ok (specs_cons lowM_ok specs_nil)
  refine add8S.good (fn := Try.f131) hT hP Try.func131 (by kernel_rfl) rfl fun (a b c n : Int) hp => ?_
  obtain ⟨ha, hb, hc, rfl⟩ : okAB a b c n := hp _ rfl
  repeat' first
    | (refine Go.mk ?_; conv => whnf)
    | refine Need.go ?_ ?_
    | refine NilG.go (fun _ => ?_) (fun _ => ?_)
    | refine Br.dec (fun _ => ?_) (fun _ => ?_)
    | refine Br.go (fun _ => ?_) (fun _ => ?_)
    | refine draw_go hT hP mixed ?_
    | refine round_go hT hP ?_
  all_goals first
    | exact of_decide_eq_true rfl
    | skip
  refine .mk [] [] _ rfl rfl rfl rfl rfl rfl (tup2_int ?_ ?_)
  · rw [width8, p8, land1e]; simp only [w64e]; omega
  · rw [width8, p8, land1e, shr8]; simp only [w64e]; omega
def borV (x : Int) : Int := if x < 0 then 1 else 0
def sub8S : PSpec := ⟨[gi, gi, gi, gi], fun (a, b, c, n, _) => (some (okAB a b c n), .tup [I1 ((a - b - c) % 256), I1 (borV (a - b - c))], [])⟩
theorem sub8_ok : GoodF Try.prog 134 sub8S.spec := by
  have hT := tab_ok (fs := [(104, widthS.spec), (79, lowM.spec)]) tree_ok
  have hP : SpecsOk Try.prog (tab tree [(104, widthS.spec), (79, lowM.spec)]) := specs_cons width_ok (specs_cons lowM_ok specs_nil)
  refine sub8S.good (fn := Try.f134) hT hP Try.func134 (by kernel_rfl) rfl fun (a b c n : Int) hp => ?_
  obtain ⟨ha, hb, hc, rfl⟩ : okAB a b c n := hp _ rfl
  repeat' first
    | (refine Go.mk ?_; conv => whnf)
    | refine Need.go ?_ ?_
    | refine NilG.go (fun _ => ?_) (fun _ => ?_)
    | refine Br.dec (fun _ => ?_) (fun _ => ?_)
    | refine Br.go (fun _ => ?_) (fun _ => ?_)
    | refine draw_go hT hP mixed ?_
    | refine round_go hT hP ?_
  all_goals first
    | exact of_decide_eq_true rfl
    | skip
  all_goals
    rename_i h
    dsimp only [gi, Den] at h
    rw [width8, p8, land1e] at h
    simp only [w64e] at h
    refine .mk [] [] _ rfl rfl rfl rfl rfl rfl (tup2_int ?_ ?_)
    · simp only [width8, p8, land1e, shl18, w64e]; rcases hc with rfl | rfl <;> omega
    · unfold borV; rcases hc with rfl | rfl <;> split <;> omega
def okN (n c b : Int) : Prop := bitC c ∧ b = 8
def rol8S : PSpec := ⟨[gi, gi, gi], fun (n, c, b, _) => (some (okN n c b), .tup [I1 ((n * 2 + c) % 256), I1 (n % 256 / 128)], [])⟩
theorem rol8_ok : GoodF Try.prog 135 rol8S.spec := by
  have hT := tab_ok (fs := [(104, widthS.spec), (79, lowM.spec)]) tree_ok
  have hP : SpecsOk Try.prog (tab tree [(104, widthS.spec), (79, lowM.spec)]) := specs_cons width_ok (specs_cons lowM_ok specs_nil)
  refine rol8S.good (fn := Try.f135) hT hP Try.func135 (by kernel_rfl) rfl fun (n c b : Int) hp => ?_
  obtain ⟨hc, rfl⟩ : okN n c b := hp _ rfl
  have hcc : c % 2 = c := by rcases hc with rfl | rfl <;> rfl
  repeat' first
    | (refine Go.mk ?_; conv => whnf)
    | refine Need.go ?_ ?_
    | refine NilG.go (fun _ => ?_) (fun _ => ?_)
    | refine Br.dec (fun _ => ?_) (fun _ => ?_)
    | refine Br.go (fun _ => ?_) (fun _ => ?_)
    | refine draw_go hT hP mixed ?_
    | refine round_go hT hP ?_
  all_goals first
    | exact of_decide_eq_true rfl
    | skip
  have hor := or_low (n % 256) c (by omega) hc
  refine .mk [] [] _ rfl rfl rfl rfl rfl rfl (tup2_int ?_ ?_)
  · simp only [width8, p8, land1e, hcc]
    rw [shl1 _ (by omega), hor]
    rcases hc with rfl | rfl <;> omega
  · simp only [width8, p8, land1e, hcc]
    rw [shl1 _ (by omega), hor, shr8]
    rcases hc with rfl | rfl <;> omega
def ror8S : PSpec := ⟨[gi, gi, gi], fun (n, c, b, _) => (some (okN n c b), .tup [I1 (n % 256 / 2 + 128 * c), I1 (n % 2)], [])⟩
theorem ror8_ok : GoodF Try.prog 136 ror8S.spec := by
  have hT := tab_ok (fs := [(104, widthS.spec), (79, lowM.spec)]) tree_ok
  have hP : SpecsOk Try.prog (tab tree [(104, widthS.spec), (79, lowM.spec)]) := specs_cons width_ok (specs_cons lowM_ok specs_nil)
  refine ror8S.good (fn := Try.f136) hT hP Try.func136 (by kernel_rfl) rfl fun (n c b : Int) hp => ?_
  obtain ⟨hc, rfl⟩ : okN n c b := hp _ rfl
  have hcc : c % 2 = c := by rcases hc with rfl | rfl <;> rfl
  repeat' first
    | (refine Go.mk ?_; conv => whnf)
    | refine Need.go ?_ ?_
    | refine NilG.go (fun _ => ?_) (fun _ => ?_)
    | refine Br.dec (fun _ => ?_) (fun _ => ?_)
    | refine Br.go (fun _ => ?_) (fun _ => ?_)
    | refine draw_go hT hP mixed ?_
    | refine round_go hT hP ?_
  all_goals first
    | exact of_decide_eq_true rfl
    | skip
  have hor := or_high (n % 256) c (by omega) hc
  refine .mk [] [] _ rfl rfl rfl rfl rfl rfl (tup2_int ?_ ?_)
  · simp only [width8, p8, land1e, hcc]
    rw [shl8 _ (by rcases hc with rfl | rfl <;> omega), hor, shr1]
    rcases hc with rfl | rfl <;> omega
  · simp only [width8, p8, hcc, land1e]
    rw [shl8 _ (by rcases hc with rfl | rfl <;> omega), hor]
    rcases hc with rfl | rfl <;> omega
def sgn8S : PSpec := ⟨[gi, gi], fun (n, b, _) => (some ((b : Int) = 8), I (n % 256 - n % 256 / 128 * 256), [])⟩
theorem sgn8_ok : GoodF Try.prog 125 sgn8S.spec := by
  have hT := tab_ok (fs := [(104, widthS.spec), (79, lowM.spec)]) tree_ok
  have hP : SpecsOk Try.prog (tab tree [(104, widthS.spec), (79, lowM.spec)]) := specs_cons width_ok (specs_cons lowM_ok specs_nil)
  refine sgn8S.good (fn := Try.f125) hT hP Try.func125 (by kernel_rfl) rfl fun (n b : Int) hp => ?_
  obtain rfl : b = 8 := hp _ rfl
  repeat' first
    | (refine Go.mk ?_; conv => whnf)
    | refine Need.go ?_ ?_
    | refine NilG.go (fun _ => ?_) (fun _ => ?_)
    | refine Br.dec (fun _ => ?_) (fun _ => ?_)
    | refine Br.go (fun _ => ?_) (fun _ => ?_)
    | refine draw_go hT hP mixed ?_
    | refine round_go hT hP ?_
  all_goals first
    | exact (by decide : 0 ≤ widthF 8 ∧ widthF 8 ≤ 62)
    | exact (by decide : 0 ≤ IntKind.i64.wrap (widthF 8 - 1))
    | exact (by decide : 0 ≤ widthF 8)
    | skip
  all_goals
    rename_i h
    dsimp only [gi, Den] at h
    rw [width8, p8, show IntKind.i64.wrap (8 - 1) = 7 by decide, shr7] at h
    refine .mk [] [] _ rfl rfl rfl rfl rfl rfl (imm_int ?_)
    simp only [width8, p8, shl18, w64e]; omega

-- flags

def flagV (p f : Int) (on : Bool) : Int := cond on (lor .i64 (landNot .i64 p f) f) (landNot .i64 p f)
def flagS : PSpec := ⟨[gR, gi, gB], fun (r, f, on, _) => (some (List.length r = 9), .agg [.run .i64 9 (List.set r 4 (flagV (List.getD r 4 0) f on))], [])⟩
theorem flag_ok : GoodF Try.prog 122 flagS.spec := by
  have hT := tab_ok (fs := []) tree_ok
  have hP : SpecsOk Try.prog (tab tree []) := specs_nil
  refine flagS.good (fn := Try.f122) hT hP Try.func122 (by kernel_rfl) rfl fun (r : List Int) (f : Int) (on : Bool) hp => ?_
  have h9 : r.length = 9 := hp _ rfl
  obtain ⟨r0, r1, r2, r3, r4, r5, r6, r7, r8, rfl⟩ := nine h9
  cases on
  all_goals
    repeat' first
      | (refine Go.mk ?_; conv => whnf)
      | refine Need.go ?_ ?_
      | refine NilG.go (fun _ => ?_) (fun _ => ?_)
      | refine Br.dec (fun _ => ?_) (fun _ => ?_)
      | refine Br.go (fun _ => ?_) (fun _ => ?_)
      | refine draw_go hT hP mixed ?_
      | refine round_go hT hP ?_
  all_goals first
    | exact of_decide_eq_true rfl
    | exact .mk [] [] _ rfl rfl rfl rfl rfl rfl rfl
def nzV (p n : Int) : Int := flagV (flagV p 2 (decide (n = 0))) 128 (decide (n ≥ 128))
def nzS : PSpec := ⟨[gR, gi], fun (r, n, _) => (some (List.length r = 9), .agg [.run .i64 9 (List.set r 4 (nzV (List.getD r 4 0) n))], [])⟩
theorem nz_ok : GoodF Try.prog 119 nzS.spec := by
  have hT := tab_ok (fs := [(122, flagS.spec)]) tree_ok
  have hP : SpecsOk Try.prog (tab tree [(122, flagS.spec)]) := specs_cons flag_ok specs_nil
  refine nzS.good (fn := Try.f119) hT hP Try.func119 (by kernel_rfl) rfl fun (r : List Int) (n : Int) hp => ?_
  have h9 : r.length = 9 := hp _ rfl
  obtain ⟨r0, r1, r2, r3, r4, r5, r6, r7, r8, rfl⟩ := nine h9
  repeat' first
    | (refine Go.mk ?_; conv => whnf)
    | refine Need.go ?_ ?_
    | refine NilG.go (fun _ => ?_) (fun _ => ?_)
    | refine Br.dec (fun _ => ?_) (fun _ => ?_)
    | refine Br.go (fun _ => ?_) (fun _ => ?_)
    | refine draw_go hT hP mixed ?_
    | refine round_go hT hP ?_
  all_goals first
    | exact of_decide_eq_true rfl
    | exact .mk [] [] _ rfl rfl rfl rfl rfl rfl rfl
def carryS : PSpec := ⟨[gR], fun (r, _) => (some (List.length r = 9), I (land .i64 (List.getD r 4 0) 1), [])⟩
theorem carry_ok : GoodF Try.prog 132 carryS.spec := by
  have hT := tab_ok (fs := []) tree_ok
  have hP : SpecsOk Try.prog (tab tree []) := specs_nil
  refine carryS.good (fn := Try.f132) hT hP Try.func132 (by kernel_rfl) rfl fun (r : List Int) hp => ?_
  have h9 : r.length = 9 := hp _ rfl
  repeat' first
    | (refine Go.mk ?_; conv => whnf)
    | refine Need.go ?_ ?_
    | refine NilG.go (fun _ => ?_) (fun _ => ?_)
    | refine Br.dec (fun _ => ?_) (fun _ => ?_)
    | refine Br.go (fun _ => ?_) (fun _ => ?_)
    | refine draw_go hT hP mixed ?_
    | refine round_go hT hP ?_
  all_goals first
    | exact of_decide_eq_true rfl
    | exact .mk [] [] _ rfl rfl rfl rfl rfl rfl rfl
def clampR (n : Int) : Int := max 0 (min n 8)
def aIndexS : PSpec := ⟨[gi], fun (n, _) => (none, I (clampR n), [])⟩
theorem aIndex_ok : GoodF Try.prog 118 aIndexS.spec := by
  have hT := tab_ok (fs := []) tree_ok
  have hP : SpecsOk Try.prog (tab tree []) := specs_nil
  refine aIndexS.good (fn := Try.f118) hT hP Try.func118 (by kernel_rfl) rfl fun (n : Int) hp => ?_
  repeat' first
    | (refine Go.mk ?_; conv => whnf)
    | refine Need.go ?_ ?_
    | refine NilG.go (fun _ => ?_) (fun _ => ?_)
    | refine Br.dec (fun _ => ?_) (fun _ => ?_)
    | refine Br.go (fun _ => ?_) (fun _ => ?_)
    | refine draw_go hT hP mixed ?_
    | refine round_go hT hP ?_
  refine .mk [] [] _ rfl rfl rfl rfl rfl rfl (imm_int ?_)
  rw [imax_eq, imin_eq]; rfl
theorem clamp_in (n : Int) : 0 ≤ clampR n ∧ clampR n < 9 := by unfold clampR; omega
def okT (t : Int) : Prop := 0 ≤ t ∧ t < 9
def resV (p n c : Int) : Int := flagV (nzV p n) 1 (decide (c = 1))
def resultS : PSpec := ⟨[gR, gi, gi, gi], fun (r, t, n, c, _) => (some (List.length r = 9 ∧ okT t), .agg [.run .i64 9 (List.set (List.set r 4 (resV (List.getD r 4 0) n c)) (Int.toNat t) n)], [])⟩
theorem result_ok : GoodF Try.prog 133 resultS.spec := by
  have hT := tab_ok (fs := [(122, flagS.spec), (119, nzS.spec)]) tree_ok
  have hP : SpecsOk Try.prog (tab tree [(122, flagS.spec), (119, nzS.spec)]) := specs_cons flag_ok (specs_cons nz_ok specs_nil)
  refine resultS.good (fn := Try.f133) hT hP Try.func133 (by kernel_rfl) rfl fun (r : List Int) (t n c : Int) hp => ?_
  obtain ⟨h9, ht⟩ : r.length = 9 ∧ okT t := hp _ rfl
  obtain ⟨r0, r1, r2, r3, r4, r5, r6, r7, r8, rfl⟩ := nine h9
  have ht2 : t.toNat < 9 := by have := ht; unfold okT at this; omega
  repeat' first
    | (refine Go.mk ?_; conv => whnf)
    | refine Need.go ?_ ?_
    | refine NilG.go (fun _ => ?_) (fun _ => ?_)
    | refine Br.dec (fun _ => ?_) (fun _ => ?_)
    | refine Br.go (fun _ => ?_) (fun _ => ?_)
    | refine draw_go hT hP mixed ?_
    | refine round_go hT hP ?_
  all_goals first
    | exact of_decide_eq_true rfl
    | exact ht
    | exact ht2
    | exact .mk [] [] _ rfl rfl rfl rfl rfl rfl rfl

end Go.Proofs.Ytanaaecfghmmaaa

/- The steps of a processor: two bytes, shifts, the whole step. -/
namespace Go.Proofs.Ytanaaecfghmmaaa
open Go.Fw
set_option linter.unusedVariables false
set_option linter.unusedSimpArgs false
set_option maxRecDepth 100000

theorem fitB_in (r : List Int) (n : Nat) : 0 ≤ (fitR r).getD n 0 ∧ (fitR r).getD n 0 < 65536 := by
  match n with
  | 0 | 1 | 2 | 3 | 4 | 5 | 6 | 7 | 8 => simp [fitR]; omega
  | n + 9 => simp [fitR]
theorem fit_4 (r : List Int) : 0 ≤ (fitR r).getD 4 0 ∧ (fitR r).getD 4 0 < 256 := by simp [fitR]; omega
theorem okT_nat {t : Int} (h : okT t) : 0 ≤ t ∧ t < ((9 : Nat) : Int) := by unfold okT at h; omega
theorem okT_lt {t : Int} (h : okT t) : t.toNat < 9 := by unfold okT at h; omega
abbrev aV (t : Int) (F : List Int) : Int := F.getD t.toNat 0 % 256
abbrev cV (F : List Int) : Int := F.getD 4 0 % 2
def logV (d a b : Int) : Int := if d = 7 then land .i64 a b else if d = 8 then lor .i64 a b else lxor .i64 a b
def binF (d t f : Int) (F : List Int) : List Int :=
  if d = 4 then (F.set 4 (resV (F.getD 4 0) ((aV t F + aV f F + cV F) % 256) ((aV t F + aV f F + cV F) / 256))).set t.toNat ((aV t F + aV f F + cV F) % 256)
  else if d = 5 then (F.set 4 (resV (F.getD 4 0) ((aV t F - aV f F - (1 - cV F)) % 256) (1 - borV (aV t F - aV f F - (1 - cV F))))).set t.toNat ((aV t F - aV f F - (1 - cV F)) % 256)
  else if d = 6 then F.set 4 (flagV (nzV (F.getD 4 0) ((aV t F - aV f F) % 256)) 1 (decide (borV (aV t F - aV f F) = 0)))
  else (F.set 4 (nzV (F.getD 4 0) (logV d (aV t F) (aV f F)))).set t.toNat (logV d (aV t F) (aV f F))
theorem pow8 : (2 : Int) ^ 8 = 256 := by decide
theorem wbor (x : Int) : IntKind.i64.wrap (1 - borV x) = 1 - borV x := by unfold borV; split <;> decide
theorem i8 : Int.toNat 8 = 8 := rfl
def okBin (d t f : Int) (r : List Int) : Prop := okT t ∧ okT f ∧ ∃ q, r = fitR q
theorem set_set4 (F : List Int) (x y : Int) : (F.set 4 x).set 4 y = F.set 4 y := by simp
theorem get_set4 {F : List Int} (h : F.length = 9) (x : Int) : (F.set 4 x).getD 4 0 = x := by
  rw [List.getD_eq_getElem?_getD, List.getElem?_set]; simp [h]
def binS : PSpec := ⟨[gi, gi, gi, gR], fun (d, t, f, r, _) => (some (okBin d t f r), .agg [.run .i64 9 (binF d t f r)], [])⟩
theorem bin_ok : GoodF Try.prog 120 binS.spec := by
  have hT := tab_ok (fs := [(122, flagS.spec), (119, nzS.spec), (132, carryS.spec), (133, resultS.spec), (131, add8S.spec), (134, sub8S.spec), (79, lowM.spec)]) tree_ok
  have hP : SpecsOk Try.prog (tab tree [(122, flagS.spec), (119, nzS.spec), (132, carryS.spec), (133, resultS.spec), (131, add8S.spec), (134, sub8S.spec), (79, lowM.spec)]) := specs_cons flag_ok (specs_cons nz_ok (specs_cons carry_ok (specs_cons result_ok (specs_cons add8_ok (specs_cons sub8_ok (specs_cons lowM_ok specs_nil))))))
  refine binS.good (fn := Try.f120) hT hP Try.func120 (by kernel_rfl) rfl fun (d t f : Int) (r : List Int) hp => ?_
  obtain ⟨ht, hf, q, rfl⟩ : okBin d t f r := hp _ rfl
  have ht1 := okT_nat ht
  have hf1 := okT_nat hf
  have ht2 := okT_lt ht
  have hf2 := okT_lt hf
  have hl : (fitR q).length = 9 := rfl
  have hc := fit_4 q
  have hlc : land .i64 ((fitR q).getD 4 0) 1 = (fitR q).getD 4 0 % 2 := land1e _
  have hw1 : IntKind.i64.wrap (1 - (fitR q).getD 4 0 % 2) = 1 - (fitR q).getD 4 0 % 2 := w64 (by omega) (by omega)
  clear hp
  repeat' first
    | (refine Go.mk ?_; conv => whnf)
    | refine Need.go ?_ ?_
    | refine NilG.go (fun _ => ?_) (fun _ => ?_)
    | refine Br.dec (fun _ => ?_) (fun _ => ?_)
    | refine Br.go (fun _ => ?_) (fun _ => ?_)
    | refine draw_go hT hP mixed ?_
    | refine round_go hT hP ?_
  all_goals first
    | exact of_decide_eq_true rfl
    | exact ht1
    | exact hf1
    | exact ht2
    | exact hf2
    | exact ⟨rfl, ht⟩
    | exact rfl
    | skip
  all_goals (try refine .mk [] [] _ rfl rfl rfl rfl rfl rfl (agg9 ?_))
  all_goals clear hT hP
  all_goals (simp only [i8, pow8, hlc, hw1, wbor])
  all_goals (try (unfold okAB bitC; omega))
  all_goals (clear ht1 hf1 ht2 hf2 hlc hw1)
  all_goals (try simp_all [binF, logV, aV, cV])
  all_goals (try rfl)

def shF (d t : Int) (F : List Int) : List Int :=
  if d = 12 then (F.set 4 (resV (F.getD 4 0) ((F.getD t.toNat 0 * 2 + 0) % 256) (F.getD t.toNat 0 % 256 / 128))).set t.toNat ((F.getD t.toNat 0 * 2 + 0) % 256)
  else if d = 14 then (F.set 4 (resV (F.getD 4 0) ((F.getD t.toNat 0 * 2 + cV F) % 256) (F.getD t.toNat 0 % 256 / 128))).set t.toNat ((F.getD t.toNat 0 * 2 + cV F) % 256)
  else if d = 13 then (F.set 4 (resV (F.getD 4 0) (F.getD t.toNat 0 % 256 / 2 + 128 * 0) (F.getD t.toNat 0 % 2))).set t.toNat (F.getD t.toNat 0 % 256 / 2 + 128 * 0)
  else (F.set 4 (resV (F.getD 4 0) (F.getD t.toNat 0 % 256 / 2 + 128 * cV F) (F.getD t.toNat 0 % 2))).set t.toNat (F.getD t.toNat 0 % 256 / 2 + 128 * cV F)
def okSh (t : Int) (r : List Int) : Prop := okT t ∧ ∃ q, r = fitR q
def shS : PSpec := ⟨[gi, gi, gR], fun (d, t, r, _) => (some (okSh t r), .agg [.run .i64 9 (shF d t r)], [])⟩
theorem sh_ok : GoodF Try.prog 121 shS.spec := by
  have hT := tab_ok (fs := [(132, carryS.spec), (133, resultS.spec), (135, rol8S.spec), (136, ror8S.spec)]) tree_ok
  have hP : SpecsOk Try.prog (tab tree [(132, carryS.spec), (133, resultS.spec), (135, rol8S.spec), (136, ror8S.spec)]) := specs_cons carry_ok (specs_cons result_ok (specs_cons rol8_ok (specs_cons ror8_ok specs_nil)))
  refine shS.good (fn := Try.f121) hT hP Try.func121 (by kernel_rfl) rfl fun (d t : Int) (r : List Int) hp => ?_
  obtain ⟨ht, q, rfl⟩ : okSh t r := hp _ rfl
  have ht1 := okT_nat ht
  have ht2 := okT_lt ht
  have hl : (fitR q).length = 9 := rfl
  have hc := fit_4 q
  have hlc : land .i64 ((fitR q).getD 4 0) 1 = (fitR q).getD 4 0 % 2 := land1e _
  clear hp
  repeat' first
    | (refine Go.mk ?_; conv => whnf)
    | refine Need.go ?_ ?_
    | refine NilG.go (fun _ => ?_) (fun _ => ?_)
    | refine Br.dec (fun _ => ?_) (fun _ => ?_)
    | refine Br.go (fun _ => ?_) (fun _ => ?_)
    | refine draw_go hT hP mixed ?_
    | refine round_go hT hP ?_
  all_goals first
    | exact of_decide_eq_true rfl
    | exact ht1
    | exact ht2
    | exact ⟨rfl, ht⟩
    | exact rfl
    | exact ⟨.inl rfl, rfl⟩
    | skip
  all_goals (try refine .mk [] [] _ rfl rfl rfl rfl rfl rfl (agg9 ?_))
  all_goals clear hT hP
  all_goals (try rw [hlc])
  all_goals (try (unfold okN bitC; omega))
  all_goals (clear ht1 ht2 hlc)
  all_goals (try simp_all [shF, cV])
  all_goals trace_state

end Go.Proofs.Ytanaaecfghmmaaa

/- The steps of a processor: the whole step. -/
namespace Go.Proofs.Ytanaaecfghmmaaa
open Go.Fw
set_option linter.unusedVariables false
set_option linter.unusedSimpArgs false
set_option maxRecDepth 100000

abbrev gS : Sig := ⟨true, StepT⟩
theorem w_0 : IntKind.i64.wrap 0 = 0 := by decide
theorem w_1 : IntKind.i64.wrap 1 = 1 := by decide
theorem w_2 : IntKind.i64.wrap 2 = 2 := by decide
theorem w_8 : IntKind.i64.wrap 8 = 8 := by decide
def incN (d t : Int) (F : List Int) : Int := (F.getD t.toNat 0 + 1 - 2 * (d - 10)) % cond (wideB t) 65536 256
def incF (d t : Int) (F : List Int) : List Int := if wideB t = true then F.set t.toNat (incN d t F) else (F.set 4 (nzV (F.getD 4 0) (incN d t F))).set t.toNat (incN d t F)
def stepX (d n t f : Int) (F : List Int) : List Int :=
  if d = 1 then F.set t.toNat (F.getD f.toNat 0) else if d = 2 then F.set t.toNat n else if d = 3 then F.set 4 (nzV (F.getD 4 0) (F.getD t.toNat 0 % 256))
  else if 4 ≤ d ∧ d ≤ 9 then binF d t f F else if d = 10 ∨ d = 11 then incF d t F else if 12 ≤ d ∧ d ≤ 15 then shF d t F
  else if d = 16 then F.set 4 (flagV (F.getD 4 0) (n % 256) true) else if d = 17 then F.set 4 (flagV (F.getD 4 0) (n % 256) false)
  else if d = 18 then F.set t.toNat (256 * (F.getD t.toNat 0 / 256) + F.getD f.toNat 0 % 256) else if d = 19 then F.set t.toNat (256 * (256 * (F.getD t.toNat 0 / 65536) + F.getD f.toNat 0 % 256) + F.getD t.toNat 0 % 256)
  else if d = 20 then F.set t.toNat (F.getD f.toNat 0 % 256) else if d = 21 then F.set t.toNat (F.getD f.toNat 0 / 256 % 256)
  else if d = 22 then F.set t.toNat (F.getD t.toNat 0 + F.getD f.toNat 0 % 256) else if d = 23 then F.set t.toNat (F.getD t.toNat 0 + (F.getD f.toNat 0 % 256 - F.getD f.toNat 0 % 256 / 128 * 256)) else F
theorem binF_len (d t f : Int) (F : List Int) : (binF d t f F).length = F.length := by unfold binF; (repeat' split) <;> simp
theorem shF_len (d t : Int) (F : List Int) : (shF d t F).length = F.length := by unfold shF; (repeat' split) <;> simp
theorem incF_len (d t : Int) (F : List Int) : (incF d t F).length = F.length := by unfold incF; (repeat' split) <;> simp
def doR (s : Stp) (r : List Int) : List Int := if s.1 = 24 then fitR r else fitR (stepX s.1 s.2.2.2 (clampR s.2.1) (clampR s.2.2.1) (fitR r))
def doE (s : Stp) (r : List Int) : Bool := decide (s.1 = 24) && ((land .i64 ((fitR r).getD 4 0) (s.2.2.2 % 256) != 0) != decide (s.2.2.1 = 1))
theorem tupRB {l l' : List Int} {b b' : Bool} (h : l = l') (h2 : b = b') : AV.tup [.agg [.run .i64 9 l], .c (bv b)] = AV.tup [.agg [.run .i64 9 l'], .c (bv b')] := by rw [h, h2]
def doS : PSpec := ⟨[gS, gR], fun (s, r, _) => (some (List.length r = 9), .tup [.agg [.run .i64 9 (doR s r)], .c (bv (doE s r))], [])⟩
theorem mb {t : Int} : (2 : Int) ^ (Int.toNat (cond (wideB t) 16 8)) = cond (wideB t) 65536 256 := by cases wideB t <;> decide
theorem bits_in (t : Int) : 0 ≤ cond (wideB t) (16 : Int) 8 ∧ cond (wideB t) (16 : Int) 8 ≤ 62 := by cases wideB t <;> decide
set_option maxHeartbeats 8000000 in
theorem do_ok : GoodF Try.prog 106 doS.spec := by
  have hT := tab_ok (fs := [(118, aIndexS.spec), (100, fitS.spec), (122, flagS.spec), (119, nzS.spec), (116, aBitsS.spec), (25, wideS.spec), (120, binS.spec), (121, shS.spec), (79, lowM.spec), (124, getM.spec), (123, putM.spec), (125, sgn8S.spec)]) tree_ok
  have hP : SpecsOk Try.prog (tab tree [(118, aIndexS.spec), (100, fitS.spec), (122, flagS.spec), (119, nzS.spec), (116, aBitsS.spec), (25, wideS.spec), (120, binS.spec), (121, shS.spec), (79, lowM.spec), (124, getM.spec), (123, putM.spec), (125, sgn8S.spec)]) := specs_cons aIndex_ok (specs_cons aFit_ok (specs_cons flag_ok (specs_cons nz_ok (specs_cons aBits_ok (specs_cons tWide_ok (specs_cons bin_ok (specs_cons sh_ok (specs_cons lowM_ok (specs_cons getM_ok (specs_cons putM_ok (specs_cons sgn8_ok specs_nil)))))))))))
  refine doS.good (fn := Try.f106) hT hP Try.func106 (by kernel_rfl) rfl fun (s : Stp) (r : List Int) hp => ?_
  obtain ⟨d, to, fr, n⟩ := s
  have h9 : r.length = 9 := hp _ rfl
  have ht : okT (clampR to) := clamp_in to
  have hf : okT (clampR fr) := clamp_in fr
  have ht1 := okT_nat ht
  have hf1 := okT_nat hf
  have ht2 := okT_lt ht
  have hf2 := okT_lt hf
  have hl : (fitR r).length = 9 := rfl
  have hb := bits_in (clampR to)
  clear hp
  repeat' first
    | (refine Go.mk ?_; conv => whnf)
    | refine Need.go ?_ ?_
    | refine NilG.go (fun _ => ?_) (fun _ => ?_)
    | refine Br.dec (fun _ => ?_) (fun _ => ?_)
    | refine Br.go (fun _ => ?_) (fun _ => ?_)
    | refine draw_go hT hP mixed ?_
    | refine round_go hT hP ?_
  all_goals first
    | exact of_decide_eq_true rfl
    | exact h9
    | exact ht1
    | exact hf1
    | exact ht2
    | exact hf2
    | exact hb
    | exact ⟨ht, hf, _, rfl⟩
    | exact ⟨ht, _, rfl⟩
    | exact ⟨rfl, ht⟩
    | exact rfl
    | skip
  all_goals (try refine .mk [] [] _ rfl rfl rfl rfl rfl rfl (tupRB ?_ ?_))
  all_goals clear hT hP
  all_goals (dsimp only at *)
  all_goals (try (simp only [List.length_set, binF_len, shF_len, hl]; done))
  all_goals (try (rename_i h; simp [doE, h]; done))
  all_goals
    have bA := fitB_in r (clampR to).toNat
    have bB := fitB_in r (clampR fr).toNat
    clear ht1 hf1 ht2 hf2 hb
  all_goals (try simp only [doR, stepX, incF, incN, doE])
  all_goals
    generalize (fitR r).getD (clampR to).toNat 0 = A at *
    generalize (fitR r).getD (clampR fr).toNat 0 = B at *
  all_goals
    have hA1 : IntKind.i64.wrap (A + 1) = A + 1 := w64 (by omega) (by omega)
    have hA2 : IntKind.i64.wrap (A + 1 - 2) = A + 1 - 2 := w64 (by omega) (by omega)
    have hA3 : IntKind.i64.wrap (A + B % 256) = A + B % 256 := w64 (by omega) (by omega)
    have hA4 : IntKind.i64.wrap (A + (B % 256 - B % 256 / 128 * 256)) = A + (B % 256 - B % 256 / 128 * 256) := w64 (by omega) (by omega)
    have hA5 : A < 4611686018427387904 := by omega
    have hA6 : B < 4611686018427387904 := by omega
  all_goals (try simp_all [w_0, w_1, w_2, w_8])
  all_goals (try omega)
  · show ((land .i64 (fitR r)[4] (n % 256) != 0) == decide (fr = 1)) = !((land .i64 (fitR r)[4] (n % 256) != 0) != decide (fr = 1))
    cases (land .i64 (fitR r)[4] (n % 256) != 0) <;> cases decide (fr = 1) <;> rfl
  · rw [if_neg (by omega), if_neg (by omega)]

end Go.Proofs.Ytanaaecfghmmaaa

/- The steps of a processor in the reference: flags, sums, shifts. -/
namespace Go.Proofs.Ytanaaecfghmmaaa
open Go.Fw
set_option linter.unusedVariables false
set_option linter.unusedSimpArgs false
set_option maxRecDepth 100000

def limF (n lo hi : Int) : Int := if n < lo then lo else if n > hi then hi else n
def lmtS : PSpec := ⟨[gi, gi, gi], fun (n, lo, hi, _) => (none, I (limF n lo hi), [])⟩
theorem lmt_ok : GoodF Try.prog 96 lmtS.spec := by
  have hT := tab_ok (fs := []) tree_ok
  have hP : SpecsOk Try.prog (tab tree []) := specs_nil
  refine lmtS.good (fn := Try.f96) hT hP Try.func96 (by kernel_rfl) rfl fun (n lo hi : Int) hp => ?_
  repeat' first
    | (refine Go.mk ?_; conv => whnf)
    | refine Need.go ?_ ?_
    | refine NilG.go (fun _ => ?_) (fun _ => ?_)
    | refine Br.dec (fun _ => ?_) (fun _ => ?_)
    | refine Br.go (fun _ => ?_) (fun _ => ?_)
    | refine draw_go hT hP mixed ?_
    | refine round_go hT hP ?_
  all_goals
    refine .mk [] [] _ rfl rfl rfl rfl rfl rfl (imm_int ?_)
    show _ = limF n lo hi
    dsimp only [gi, Den] at *
    unfold limF
    split <;> (try split) <;> omega
theorem lim_clamp (n : Int) : limF n 0 8 = clampR n := by unfold limF clampR; split <;> (try split) <;> omega

def rfV (p n c : Int) : Int :=
  let q := landNot .i64 p 130
  let q := if n = 0 then lor .i64 q 2 else q
  let q := lor .i64 q (land .i64 n 128)
  if c ≥ 0 then lor .i64 (landNot .i64 q 1) c else q
def rflagsS : PSpec := ⟨[gi, gi, gi], fun (p, n, c, _) => (none, I (rfV p n c), [])⟩
theorem rflags_ok : GoodF Try.prog 97 rflagsS.spec := by
  have hT := tab_ok (fs := []) tree_ok
  have hP : SpecsOk Try.prog (tab tree []) := specs_nil
  refine rflagsS.good (fn := Try.f97) hT hP Try.func97 (by kernel_rfl) rfl fun (p n c : Int) hp => ?_
  repeat' first
    | (refine Go.mk ?_; conv => whnf)
    | refine Need.go ?_ ?_
    | refine NilG.go (fun _ => ?_) (fun _ => ?_)
    | refine Br.dec (fun _ => ?_) (fun _ => ?_)
    | refine Br.go (fun _ => ?_) (fun _ => ?_)
    | refine draw_go hT hP mixed ?_
    | refine round_go hT hP ?_
  all_goals
    refine .mk [] [] _ rfl rfl rfl rfl rfl rfl (imm_int ?_)
    show _ = rfV p n c
    simp_all [rfV] <;> (intro h; exfalso; omega)
theorem land128 : ∀ n : Int, 0 ≤ n → n < 256 → land .i64 n 128 = if n ≥ 128 then 128 else 0 := fin256 (fun n => land .i64 n 128 = if n ≥ 128 then 128 else 0) (by decide +kernel)
def rfB (p : Int) (z m : Bool) : Int := lor .i64 (cond z (lor .i64 (landNot .i64 p 130) 2) (landNot .i64 p 130)) (cond m 128 0)
theorem rfB_eq (z m : Bool) : ∀ p : Int, 0 ≤ p → p < 256 → rfB p z m = flagV (flagV p 2 z) 128 m := by
  cases z <;> cases m
  · exact fin256 (fun p => rfB p false false = flagV (flagV p 2 false) 128 false) (by decide +kernel)
  · exact fin256 (fun p => rfB p false true = flagV (flagV p 2 false) 128 true) (by decide +kernel)
  · exact fin256 (fun p => rfB p true false = flagV (flagV p 2 true) 128 false) (by decide +kernel)
  · exact fin256 (fun p => rfB p true true = flagV (flagV p 2 true) 128 true) (by decide +kernel)
theorem rf_b {p n : Int} (hn : 0 ≤ n ∧ n < 256) : lor .i64 (if n = 0 then lor .i64 (landNot .i64 p 130) 2 else landNot .i64 p 130) (land .i64 n 128) = rfB p (decide (n = 0)) (decide (n ≥ 128)) := by
  rw [land128 n hn.1 hn.2]
  unfold rfB
  by_cases h1 : n = 0 <;> by_cases h2 : n ≥ 128 <;> simp [h1, h2]
theorem rf_nz {p n : Int} (hp : 0 ≤ p ∧ p < 256) (hn : 0 ≤ n ∧ n < 256) : rfV p n (-1) = nzV p n := by
  unfold rfV nzV
  simp only [rf_b hn]
  rw [if_neg (by omega), rfB_eq _ _ p hp.1 hp.2]
theorem or_0 (x : Int) : lor .i64 (landNot .i64 x 1) 0 = landNot .i64 x 1 := by
  show IntKind.i64.wrap (((BitVec.ofInt 64 (landNot .i64 x 1) ||| BitVec.ofInt 64 0).toNat : Nat) : Int) = _
  have : BitVec.ofInt 64 (landNot .i64 x 1) ||| BitVec.ofInt 64 0 = BitVec.ofInt 64 (landNot .i64 x 1) := by simp
  rw [this, ofInt_toNat]
  have hb : landNot .i64 x 1 = IntKind.i64.wrap (((BitVec.ofInt 64 x &&& ~~~(BitVec.ofInt 64 1)).toNat : Nat) : Int) := rfl
  generalize ((BitVec.ofInt 64 x &&& ~~~(BitVec.ofInt 64 1)).toNat : Nat) = m at hb
  rw [hb, w64e, w64e]
  unfold u64
  omega
theorem rf_res {p n c : Int} (hp : 0 ≤ p ∧ p < 256) (hn : 0 ≤ n ∧ n < 256) (hc : c = 0 ∨ c = 1) : rfV p n c = resV p n c := by
  unfold rfV resV
  simp only [rf_b hn]
  rw [rfB_eq _ _ p hp.1 hp.2]
  rcases hc with rfl | rfl
  · rw [if_pos (by omega)]
    show lor .i64 (landNot .i64 (nzV p n) 1) 0 = flagV (nzV p n) 1 (decide ((0 : Int) = 1))
    rw [or_0]; rfl
  · rw [if_pos (by omega)]; rfl

theorem mapOne (p : Prop) [Decidable p] : getOr (mapGet (kt := .bool) (vt := .int .i64) (mapPut (kt := .bool) (vt := .int .i64) [] true (1 : Int)) (decide p)) (dflt (.int .i64)) = if p then (1 : Int) else 0 := by
  by_cases h : p
  · rw [decide_eq_true h, if_pos h]; rfl
  · rw [decide_eq_false h, if_neg h]; rfl
def okSum (d a b c : Int) : Prop := (0 ≤ a ∧ a < 256) ∧ (0 ≤ b ∧ b < 256) ∧ bitC c
def sumN (d a b c : Int) : Int := if d = 4 then (a + b + c) % 256 else if d = 5 then (a - b - (1 - c)) % 256 else (a - b) % 256
def sumC (d a b c : Int) : Int := if d = 4 then (a + b + c) / 256 else if d = 5 then 1 - borV (a - b - (1 - c)) else 1 - borV (a - b)
def sumsS : PSpec := ⟨[gi, gi, gi, gi], fun (d, a, b, c, _) => (some (okSum d a b c), .tup [I1 (sumN d a b c), I1 (sumC d a b c)], [])⟩
theorem sums_ok : GoodF Try.prog 98 sumsS.spec := by
  have hT := tab_ok (fs := [(34, modS.spec)]) tree_ok
  have hP : SpecsOk Try.prog (tab tree [(34, modS.spec)]) := specs_cons mod_ok specs_nil
  refine sumsS.good (fn := Try.f98) hT hP Try.func98 (by kernel_rfl) rfl fun (d a b c : Int) hp => ?_
  obtain ⟨ha, hb, hc⟩ : okSum d a b c := hp _ rfl
  repeat' first
    | (refine Go.mk ?_; conv => whnf)
    | refine Need.go ?_ ?_
    | refine NilG.go (fun _ => ?_) (fun _ => ?_)
    | refine Br.dec (fun _ => ?_) (fun _ => ?_)
    | refine Br.go (fun _ => ?_) (fun _ => ?_)
    | refine draw_go hT hP mixed ?_
    | refine round_go hT hP ?_
  all_goals first
    | exact of_decide_eq_true rfl
    | skip
  all_goals (try refine .mk [] [] _ rfl rfl rfl rfl rfl rfl (tup2_int ?_ ?_))
  all_goals
    unfold bitC at hc
    dsimp only [gi, Den] at *
    clear hp hT hP
  · rename_i h; simp only [sumN, if_pos h, w64e, tmodE]; split <;> omega
  · rename_i h; simp only [sumC, if_pos h, w64e, tdivE]; split <;> omega
  · rename_i h1 h2; simp only [sumN, if_neg h1, if_pos h2, w64e]; omega
  · rename_i h1 h2
    have e : IntKind.i64.wrap (IntKind.i64.wrap (a - b) - IntKind.i64.wrap (1 - c)) = a - b - (1 - c) := by simp only [w64e]; omega
    simp only [sumC, if_neg h1, if_pos h2]
    rw [e, mapOne]
    unfold borV
    split <;> omega
  · rename_i h1 h2; simp only [sumN, if_neg h1, if_neg h2, w64e]; omega
  · rename_i h1 h2
    simp only [sumC, if_neg h1, if_neg h2]
    rw [mapOne]
    unfold borV
    split <;> omega

def tnN (d a c : Int) : Int := if d = 12 then a * 2 % 256 else if d = 14 then a * 2 % 256 + c else if d = 13 then a / 2 else a / 2 + 128 * c
def tnC (d a : Int) : Int := if d = 12 ∨ d = 14 then a / 128 else a % 2
def okTn (a c : Int) : Prop := (0 ≤ a ∧ a < 256) ∧ bitC c
def turnedS : PSpec := ⟨[gi, gi, gi], fun (d, a, c, _) => (some (okTn a c), .tup [I1 (tnN d a c), I1 (tnC d a)], [])⟩
theorem turned_ok : GoodF Try.prog 99 turnedS.spec := by
  have hT := tab_ok (fs := []) tree_ok
  have hP : SpecsOk Try.prog (tab tree []) := specs_nil
  refine turnedS.good (fn := Try.f99) hT hP Try.func99 (by kernel_rfl) rfl fun (d a c : Int) hp => ?_
  obtain ⟨ha, hc⟩ : okTn a c := hp _ rfl
  repeat' first
    | (refine Go.mk ?_; conv => whnf)
    | refine Need.go ?_ ?_
    | refine NilG.go (fun _ => ?_) (fun _ => ?_)
    | refine Br.dec (fun _ => ?_) (fun _ => ?_)
    | refine Br.go (fun _ => ?_) (fun _ => ?_)
    | refine draw_go hT hP mixed ?_
    | refine round_go hT hP ?_
  all_goals first
    | exact of_decide_eq_true rfl
    | skip
  all_goals (try refine .mk [] [] _ rfl rfl rfl rfl rfl rfl (tup2_int ?_ ?_))
  all_goals
    unfold bitC at hc
    dsimp only [gi, Den] at *
    clear hp hT hP
  all_goals
    simp only [tnN, tnC, tmodE, tdivE]
    simp_all [w64e]
  all_goals omega

end Go.Proofs.Ytanaaecfghmmaaa

/- The steps of a processor in the reference: the whole step. -/
namespace Go.Proofs.Ytanaaecfghmmaaa
open Go.Fw
set_option linter.unusedVariables false
set_option linter.unusedSimpArgs false
set_option maxRecDepth 100000

theorem tmod_fitB (r : List Int) (n : Nat) (k : Int) : ((fitR r).getD n 0).tmod k = (fitR r).getD n 0 % k := Int.tmod_eq_emod_of_nonneg (fitB_in r n).1
theorem i4B : Int.toNat 4 = 4 := rfl
theorem set4_self (r : List Int) : (fitR r).set 4 ((fitR r).getD 4 0) = fitR r := rfl
theorem sf3 {P A : Int} (h : 0 ≤ P ∧ P < 256) : rfV P (A % 256) (-1) = nzV P (A % 256) := rf_nz h (by omega)
theorem sf4 {P A B : Int} (h : 0 ≤ P ∧ P < 256) : rfV P ((A % 256 + B % 256 + P % 2) % 256) ((A % 256 + B % 256 + P % 2) / 256) = resV P ((A % 256 + B % 256 + P % 2) % 256) ((A % 256 + B % 256 + P % 2) / 256) := rf_res h (by omega) (by omega)
theorem borV_bit (x : Int) : (1 - borV x = 0 ∨ 1 - borV x = 1) := by unfold borV; split <;> omega
theorem sf5 {P A B x : Int} (h : 0 ≤ P ∧ P < 256) : rfV P ((A - B - (1 - P % 2)) % 256) (1 - borV x) = resV P ((A - B - (1 - P % 2)) % 256) (1 - borV x) := rf_res h (by omega) (borV_bit x)
theorem sf6 {P A B x : Int} (h : 0 ≤ P ∧ P < 256) : rfV P ((A - B) % 256) (1 - borV x) = flagV (nzV P ((A - B) % 256)) 1 (decide (borV x = 0)) := by
  rw [rf_res h (by omega) (borV_bit x), resV]
  congr 1
  unfold borV
  split <;> decide
theorem bytesNat (x : Int) (h : 0 ≤ x ∧ x < 256) : u64 x < 256 := by unfold u64; omega
theorem land_byte {A B : Int} : 0 ≤ land .i64 (A % 256) (B % 256) ∧ land .i64 (A % 256) (B % 256) < 256 := by
  have h := bytesNat (A % 256) (by omega)
  have := Nat.and_le_left (n := u64 (A % 256)) (m := u64 (B % 256))
  rw [land_nat _ _ (by omega)]
  omega
theorem lor_byte {A B : Int} : 0 ≤ lor .i64 (A % 256) (B % 256) ∧ lor .i64 (A % 256) (B % 256) < 256 := by
  have h1 := bytesNat (A % 256) (by omega)
  have h2 := bytesNat (B % 256) (by omega)
  have := Nat.or_lt_two_pow (n := 8) h1 h2
  rw [lor_nat _ _ (by omega)]
  omega
theorem lxor_byte {A B : Int} : 0 ≤ lxor .i64 (A % 256) (B % 256) ∧ lxor .i64 (A % 256) (B % 256) < 256 := by
  have h1 := bytesNat (A % 256) (by omega)
  have h2 := bytesNat (B % 256) (by omega)
  have h3 := Nat.xor_lt_two_pow (n := 8) h1 h2
  have e : lxor .i64 (A % 256) (B % 256) = ((u64 (A % 256) ^^^ u64 (B % 256) : Nat) : Int) := by
    show IntKind.i64.wrap (((BitVec.ofInt 64 (A % 256) ^^^ BitVec.ofInt 64 (B % 256)).toNat : Nat) : Int) = _
    rw [BitVec.toNat_xor, ofInt_toNat, ofInt_toNat]
    exact w64 (by omega) (by omega)
  rw [e]
  omega
theorem sfl {P A B : Int} (h : 0 ≤ P ∧ P < 256) : rfV P (land .i64 (A % 256) (B % 256)) (-1) = nzV P (land .i64 (A % 256) (B % 256)) := rf_nz h land_byte
theorem sfo {P A B : Int} (h : 0 ≤ P ∧ P < 256) : rfV P (lor .i64 (A % 256) (B % 256)) (-1) = nzV P (lor .i64 (A % 256) (B % 256)) := rf_nz h lor_byte
theorem sfx {P A B : Int} (h : 0 ≤ P ∧ P < 256) : rfV P (lxor .i64 (A % 256) (B % 256)) (-1) = nzV P (lxor .i64 (A % 256) (B % 256)) := rf_nz h lxor_byte
theorem sfs {P A : Int} (h : 0 ≤ P ∧ P < 256) : rfV P (A % 256 * 2 % 256) (A % 256 / 128) = resV P (A % 256 * 2 % 256) (A % 256 / 128) := rf_res h (by omega) (by omega)
theorem sfr {P A : Int} (h : 0 ≤ P ∧ P < 256) : rfV P (A % 256 * 2 % 256 + P % 2) (A % 256 / 128) = resV P (A % 256 * 2 % 256 + P % 2) (A % 256 / 128) := rf_res h (by omega) (by omega)
theorem sft {P A : Int} (h : 0 ≤ P ∧ P < 256) : rfV P (A % 256 / 2) (A % 256 % 2) = resV P (A % 256 / 2) (A % 256 % 2) := rf_res h (by omega) (by omega)
theorem sfu {P A : Int} (h : 0 ≤ P ∧ P < 256) : rfV P (A % 256 / 2 + 128 * (P % 2)) (A % 256 % 2) = resV P (A % 256 / 2 + 128 * (P % 2)) (A % 256 % 2) := rf_res h (by omega) (by omega)
theorem sft' {P A : Int} (h : 0 ≤ P ∧ P < 256) : rfV P (A % 256 / 2) (A % 2) = resV P (A % 256 / 2) (A % 2) := rf_res h (by omega) (by omega)
theorem sfu' {P A : Int} (h : 0 ≤ P ∧ P < 256) : rfV P (A % 256 / 2 + 128 * (P % 2)) (A % 2) = resV P (A % 256 / 2 + 128 * (P % 2)) (A % 2) := rf_res h (by omega) (by omega)
theorem gd30 {α} (a b c d : α) : [a, b, c].getD 0 d = a := rfl
theorem gd31 {α} (a b c d : α) : [a, b, c].getD 1 d = b := rfl
theorem gd32 {α} (a b c d : α) : [a, b, c].getD 2 d = c := rfl
theorem gd20 {α} (a b d : α) : [a, b].getD 0 d = a := rfl
theorem gd21 {α} (a b d : α) : [a, b].getD 1 d = b := rfl
theorem fit_fit (r : List Int) : fitR (fitR r) = fitR r := by simp [fitR]
theorem fit_set4 {r : List Int} {v : Int} (h : 0 ≤ v ∧ v < 256) : fitR ((fitR r).set 4 v) = (fitR r).set 4 v := by
  simp [fitR]; omega
theorem set_self (l : List Int) (n : Nat) : l.set n (l.getD n 0) = l := by
  apply List.ext_getElem?
  intro i
  rw [List.getElem?_set, List.getD_eq_getElem?_getD]
  by_cases h : n = i
  · subst h; by_cases h2 : n < l.length <;> simp [h2]
  · simp [h]
theorem set4_set (l : List Int) (n : Nat) (x : Int) (h : n ≠ 4) : (l.set 4 x).set n (l.getD n 0) = l.set 4 x := by
  rw [List.set_comm _ _ (Ne.symm h), set_self]
theorem getset_mod {F : List Int} {t i : Nat} {X Y m : Int} (h : X % m = Y % m) : (F.set t X).getD i 0 % m = (F.set t Y).getD i 0 % m := by
  rw [List.getD_eq_getElem?_getD, List.getD_eq_getElem?_getD, List.getElem?_set, List.getElem?_set]
  by_cases h1 : t = i
  · rw [if_pos h1, if_pos h1]
    by_cases h2 : t < F.length
    · rw [if_pos h2, if_pos h2]; exact h
    · rw [if_neg h2, if_neg h2]
  · rw [if_neg h1, if_neg h1]
theorem getset_ne {F : List Int} {t i : Nat} {X Y : Int} (h : t ≠ i) : (F.set t X).getD i 0 = (F.set t Y).getD i 0 := by
  rw [List.getD_eq_getElem?_getD, List.getD_eq_getElem?_getD, List.getElem?_set, List.getElem?_set, if_neg h, if_neg h]
theorem fit_setE {F : List Int} {t : Nat} {X Y : Int} (h : X % 65536 = Y % 65536) : fitR (F.set t X) = fitR (F.set t Y) := by
  have h2 : X % 256 = Y % 256 := by omega
  simp only [fitR, getset_mod (F := F) (t := t) h, getset_mod (F := F) (t := t) h2]
theorem fit_setB {F : List Int} {t : Int} {X Y : Int} (ht : okT t) (hw : wideB t = false) (h : X % 256 = Y % 256) : fitR (F.set t.toNat X) = fitR (F.set t.toNat Y) := by
  have h7 : t.toNat ≠ 7 ∧ t.toNat ≠ 8 := by
    unfold wideB at hw; unfold okT at ht
    have := of_decide_eq_false hw
    omega
  simp only [fitR, getset_mod (F := F) (t := t.toNat) h, getset_ne (F := F) (X := X) (Y := Y) h7.1, getset_ne (F := F) (X := X) (Y := Y) h7.2]
theorem landNot_byte {x y : Int} (hx : 0 ≤ x ∧ x < 256) : 0 ≤ landNot .i64 x y ∧ landNot .i64 x y < 256 := by
  have h := bytesNat x hx
  have h2 := Nat.and_le_left (n := u64 x) (m := u64 y)
  have h3 := Nat.xor_lt_two_pow (n := 8) h (show u64 x &&& u64 y < 2 ^ 8 by omega)
  rw [landNot_nat _ _ (by omega)]
  omega
theorem lor_b {x y : Int} (hx : 0 ≤ x ∧ x < 256) (hy : 0 ≤ y ∧ y < 256) : 0 ≤ lor .i64 x y ∧ lor .i64 x y < 256 := by
  have h1 := bytesNat x hx
  have h2 := bytesNat y hy
  have := Nat.or_lt_two_pow (n := 8) h1 h2
  rw [lor_nat _ _ (by omega)]
  omega
theorem flagV_byte {p f : Int} {on : Bool} (hp : 0 ≤ p ∧ p < 256) (hf : 0 ≤ f ∧ f < 256) : 0 ≤ flagV p f on ∧ flagV p f on < 256 := by
  cases on
  · exact landNot_byte hp
  · exact lor_b (landNot_byte hp) hf
theorem nzV_byte {p n : Int} (hp : 0 ≤ p ∧ p < 256) : 0 ≤ nzV p n ∧ nzV p n < 256 := flagV_byte (flagV_byte hp (by omega)) (by omega)
theorem u64_of {a : Int} (h : 0 ≤ a ∧ a < 256) : ((u64 a : Nat) : Int) = a := by unfold u64; omega
theorem flagV_on {p f : Int} (hp : 0 ≤ p ∧ p < 256) (hf : 0 ≤ f ∧ f < 256) : flagV p f true = lor .i64 p f := by
  have h1 := bytesNat p hp
  have h2 := bytesNat f hf
  have h3 := Nat.or_lt_two_pow (n := 8) h1 h2
  have hb := landNot_byte (y := f) hp
  have h4 := bytesNat _ hb
  have h5 := Nat.or_lt_two_pow (n := 8) h4 h2
  show lor .i64 (landNot .i64 p f) f = lor .i64 p f
  rw [lor_nat _ _ (by omega), lor_nat _ _ (by omega)]
  have e : u64 (landNot .i64 p f) = u64 p ^^^ (u64 p &&& u64 f) := by
    have := u64_of hb
    have e2 := landNot_nat p f (by omega)
    omega
  rw [e]
  congr 1
  apply Nat.eq_of_testBit_eq
  intro i
  simp only [Nat.testBit_or, Nat.testBit_xor, Nat.testBit_and]
  cases (u64 p).testBit i <;> cases (u64 f).testBit i <;> rfl
theorem land_pos {P n : Int} (h : 0 ≤ P ∧ P < 256) : decide (0 < land .i64 P (n % 256)) = (land .i64 P (n % 256) != 0) := by
  have hb := land_byte (A := P) (B := n)
  rw [show P % 256 = P by omega] at hb
  generalize land .i64 P (n % 256) = z at *
  by_cases h0 : z = 0
  · subst h0; rfl
  · have : 0 < z := by omega
    simp [this, h0]
set_option maxHeartbeats 8000000 in
theorem stepped_ok : GoodF Try.prog 77 doS.spec := by
  have hT := tab_ok (fs := [(70, fitS.spec), (96, lmtS.spec), (97, rflagsS.spec), (98, sumsS.spec), (99, turnedS.spec), (73, wideS.spec), (34, modS.spec)]) tree_ok
  have hP : SpecsOk Try.prog (tab tree [(70, fitS.spec), (96, lmtS.spec), (97, rflagsS.spec), (98, sumsS.spec), (99, turnedS.spec), (73, wideS.spec), (34, modS.spec)]) := specs_cons rFit_ok (specs_cons lmt_ok (specs_cons rflags_ok (specs_cons sums_ok (specs_cons turned_ok (specs_cons rWide_ok (specs_cons mod_ok specs_nil))))))
  refine doS.good (fn := Try.f77) hT hP Try.func77 (by kernel_rfl) rfl fun (s : Stp) (r : List Int) hp => ?_
  obtain ⟨d, to, fr, n⟩ := s
  have h9 : r.length = 9 := hp _ rfl
  have hl : (fitR r).length = 9 := rfl
  have ht : okT (limF to 0 8) := by rw [lim_clamp]; exact clamp_in to
  have hf : okT (limF fr 0 8) := by rw [lim_clamp]; exact clamp_in fr
  have ht1 := okT_nat ht
  have hf1 := okT_nat hf
  have ht2 := okT_lt ht
  have hf2 := okT_lt hf
  clear hp
  repeat' first
    | (refine Go.mk ?_; conv => whnf)
    | refine Need.go ?_ ?_
    | refine NilG.go (fun _ => ?_) (fun _ => ?_)
    | refine Br.dec (fun _ => ?_) (fun _ => ?_)
    | refine Br.go (fun _ => ?_) (fun _ => ?_)
    | refine draw_go hT hP mixed ?_
    | refine round_go hT hP ?_
  all_goals first
    | exact of_decide_eq_true rfl
    | exact h9
    | exact ht1
    | exact hf1
    | exact ht2
    | exact hf2
    | exact rfl
    | skip
  all_goals (try refine .mk [] [] _ rfl rfl rfl rfl rfl rfl (tupRB ?_ ?_))
  all_goals clear hT hP
  all_goals (dsimp only at *)
  all_goals (try (simp only [List.length_set, hl]; done))
  all_goals (try (rename_i h; simp [doE, h]; done))
  all_goals (try simp only [lim_clamp] at *)
  all_goals (try simp only [tmod_fitB, i4B, set4_self])
  all_goals
    have bA := fitB_in r (clampR to).toNat
    have bB := fitB_in r (clampR fr).toNat
    have bP := fit_4 r
    have ht2 := okT_lt ht
    clear ht1 hf1 hf2
    try subst_vars
  all_goals (try (rename_i h; exact absurd h (by decide)))
  all_goals (try exact ⟨by omega, by omega, by unfold bitC; omega⟩)
  all_goals (try exact ⟨by omega, by unfold bitC; omega⟩)
  all_goals (try exact (fit_set4 (nzV_byte bP)).symm)
  all_goals (try simp [-List.getD_eq_getElem?_getD, gd30, gd31, gd32, gd20, gd21, doR, stepX, binF, shF, incF, incN, logV, sumN, sumC, tnN, tnC, doE, aV, cV, sf3 bP, sf4 bP, sf5 bP, sf6 bP, sfl bP, sfo bP, sfx bP, sfs bP, sfr bP, sft bP, sfu bP, sft' bP, sfu' bP, set4_self, w_0, w_1, w_2, w_8])
  all_goals (try exact (fit_set4 (nzV_byte bP)).symm)
  all_goals (try (rw [fit_set4 (flagV_byte bP (by omega)), flagV_on bP (by omega)]; done))
  all_goals (try (rw [fit_set4 (flagV_byte bP (by omega))]; rfl))
  all_goals (try (simp only [w64e, tdivE, tmodE]; exact fit_setE (by omega)))
  · have h4 : clampR to = 4 := by assumption
    rw [h4]
    exact congrArg fitR (set_set4 _ _ _)
  · have h4 : ¬clampR to = 4 := by assumption
    rw [set4_set _ _ _ (by unfold okT at ht; omega)]
  · have hw : wideB (clampR to) = false := by simp_all
    rw [w64 (by omega) (by omega)]
    simp only [hw, Bool.false_eq_true, if_false, cond_false]
    exact fit_setB ht hw (by omega)
  · have hw : wideB (clampR to) = true := by simp_all
    rw [w64 (by omega) (by omega)]
    simp only [hw, if_true, cond_true]
    exact fit_setE (by omega)
  · have hw : wideB (clampR to) = false := by simp_all
    rw [show IntKind.i64.wrap (-1) = -1 by decide, w64 (by omega) (by omega), show (fitR r).getD (clampR to).toNat 0 + 1 - 2 = (fitR r).getD (clampR to).toNat 0 + -1 by omega]
    simp only [hw, Bool.false_eq_true, if_false, cond_false]
    exact fit_setB ht hw (by omega)
  · have hw : wideB (clampR to) = true := by simp_all
    rw [show IntKind.i64.wrap (-1) = -1 by decide, w64 (by omega) (by omega), show (fitR r).getD (clampR to).toNat 0 + 1 - 2 = (fitR r).getD (clampR to).toNat 0 + -1 by omega]
    simp only [hw, if_true, cond_true]
    exact fit_setE (by omega)
  · rw [show (fitR r).getD (clampR to).toNat 0 % 256 * 2 % 256 = (fitR r).getD (clampR to).toNat 0 * 2 % 256 by omega]
  · rw [show (fitR r).getD (clampR to).toNat 0 % 256 * 2 % 256 + (fitR r).getD 4 0 % 2 = ((fitR r).getD (clampR to).toNat 0 * 2 + (fitR r).getD 4 0 % 2) % 256 by omega]
  · rw [land_pos bP]
    generalize (land .i64 ((fitR r).getD 4 0) (n % 256) != 0) = b
    by_cases h : fr = 1 <;> cases b <;> simp [h]
  · rw [set_self, fit_fit]
    (repeat' split) <;> first | rfl | (exfalso; omega) | exact (fit_fit r).symm
  all_goals trace_state

end Go.Proofs.Ytanaaecfghmmaaa

/- The processor: what it asks of the bus, in the program and in the reference. -/
namespace Go.Proofs.Ytanaaecfghmmaaa
open Go.Fw
set_option linter.unusedVariables false
set_option linter.unusedSimpArgs false
set_option maxRecDepth 100000

abbrev Bsv := Int × Int × Int
def askF (c : Cpu) (k : Kor) (irq : Bool) : Kor × Bsv :=
  let k1 : Kor := if k.2.1 = -1 then startF c (fitR k.1, k.2) irq else (fitR k.1, k.2)
  if k1.2.1 = -1 then ((plR 0 k1.1, k1.2), (1, plA 0 k1.1, 0))
  else if canB c k1.2.1 k1.2.2.1 = false ∨ (doF c k1.2.1 k1.2.2.1).1 = 0 then (k1, (0, 0, 0))
  else
    let x := doF c k1.2.1 k1.2.2.1
    ((plR x.2.1 k1.1, k1.2), (x.1, plA x.2.1 k1.1, if x.1 = 2 ∧ 0 ≤ x.2.2.1 ∧ x.2.2.1 < 9 then k1.1.getD x.2.2.1.toNat 0 % 256 else 0))
theorem tupKB {r : List Int} {a b : Int} {n : Bool} {p q s : Int} {x : Kor × Bsv} (h : ((r, a, b, n), (p, q, s)) = x) : AV.tup [.agg [.run .i64 9 r, iv .i64 a, iv .i64 b, bv n], .agg [iv .i64 p, iv .i64 q, iv .i64 s]] =
    AV.tup [.agg [.run .i64 9 x.1.1, iv .i64 x.1.2.1, iv .i64 x.1.2.2.1, bv x.1.2.2.2], .agg [iv .i64 x.2.1, iv .i64 x.2.2.1, iv .i64 x.2.2.2]] := by subst h; rfl
def askP (c : Cpu) (k : Kor) : Prop := c.2.1.length ≤ 4611686018427387904 ∧ k.1.length = 9
theorem startF_fst (c : Cpu) (k : Kor) (i : Bool) : (startF c k i).1 = k.1 := by
  unfold startF; split
  · rfl
  · split <;> rfl
theorem startF_out (c : Cpu) (k : Kor) (i : Bool) : ∃ a b n, startF c k i = (k.1, a, b, n) := ⟨(startF c k i).2.1, (startF c k i).2.2.1, (startF c k i).2.2.2, by rw [← startF_fst c k i]⟩
def askS : PSpec := ⟨[gCpu, gK, gB], fun (c, k, i, _) => (some (askP c k), .tup [.agg [.run .i64 9 (askF c k i).1.1, iv .i64 (askF c k i).1.2.1, iv .i64 (askF c k i).1.2.2.1, bv (askF c k i).1.2.2.2], .agg [iv .i64 (askF c k i).2.1, iv .i64 (askF c k i).2.2.1, iv .i64 (askF c k i).2.2.2]], [])⟩
set_option maxHeartbeats 4000000 in
theorem ask_ok : GoodF Try.prog 78 askS.spec := by
  have hT := tab_ok (fs := [(100, fitS.spec), (101, startS.spec), (102, placeRS.spec), (103, doingS.spec), (79, lowM.spec)]) tree_ok
  have hP : SpecsOk Try.prog (tab tree [(100, fitS.spec), (101, startS.spec), (102, placeRS.spec), (103, doingS.spec), (79, lowM.spec)]) := specs_cons aFit_ok (specs_cons start_ok (specs_cons cPlace_ok (specs_cons doing_ok (specs_cons lowM_ok specs_nil))))
  refine askS.good (fn := Try.f78) hT hP Try.func78 (by kernel_rfl) rfl fun (c : Cpu) (k : Kor) (i : Bool) hp => ?_
  obtain ⟨cn, ci, cr, cq, cm⟩ := c
  obtain ⟨r, op, at_, n⟩ := k
  obtain ⟨hz, h9⟩ : ci.length ≤ 4611686018427387904 ∧ r.length = 9 := hp _ rfl
  clear hp
  repeat' first
    | (refine Go.mk ?_; conv => whnf)
    | refine Need.go ?_ ?_
    | refine NilG.go (fun _ => ?_) (fun _ => ?_)
    | refine Br.dec (fun _ => ?_) (fun _ => ?_)
    | refine Br.go (fun _ => ?_) (fun _ => ?_)
    | refine draw_go hT hP mixed ?_
    | refine round_go hT hP ?_
  all_goals first
    | exact of_decide_eq_true rfl
    | exact hz
    | exact h9
    | exact ⟨hz, _, rfl⟩
    | exact ⟨_, rfl⟩
    | skip
  all_goals (try refine .mk [] [] _ rfl rfl rfl rfl rfl rfl (tupKB ?_))
  all_goals (simp only [castL_eq, askF] at *)
  all_goals
    have hs := startF_fst (cn, ci, cr, cq, cm) (fitR r, op, at_, n) i
    generalize startF (cn, ci, cr, cq, cm) (fitR r, op, at_, n) i = z at *
    obtain ⟨r2, o2, a2, n2⟩ := z
    dsimp only at *
    subst hs
  all_goals (try exact ⟨_, rfl⟩)
  all_goals (try omega)
  all_goals clear hT hP
  all_goals (try simp_all)
  all_goals (try omega)

theorem fit_in (r : List Int) (n : Nat) : 0 ≤ (fitR r).getD n 0 ∧ (fitR r).getD n 0 < 65536 := by
  match n with
  | 0 | 1 | 2 | 3 | 4 | 5 | 6 | 7 | 8 => simp [fitR]; omega
  | n + 9 => simp [fitR]
theorem fit_3 (r : List Int) : (fitR r).getD 4 0 < 256 := by simp [fitR]; omega
theorem tmod_fit (r : List Int) (n : Nat) (k : Int) : ((fitR r).getD n 0).tmod k = (fitR r).getD n 0 % k := Int.tmod_eq_emod_of_nonneg (fit_in r n).1
theorem tdiv_fit (r : List Int) (n : Nat) (k : Int) : ((fitR r).getD n 0).tdiv k = (fitR r).getD n 0 / k := Int.tdiv_eq_ediv_of_nonneg (fit_in r n).1
theorem inc_fit (r : List Int) (n : Nat) : (IntKind.i64.wrap ((fitR r).getD n 0 + 1)).tmod 65536 = ((fitR r).getD n 0 + 1) % 65536 := by
  have := fit_in r n
  rw [w64 (by omega) (by omega), Int.tmod_eq_emod_of_nonneg (by omega)]
theorem bit4 (r : List Int) : (IntKind.i64.wrap ((fitR r).getD 4 0 / 4)).tmod 2 = (fitR r).getD 4 0 / 4 % 2 := by
  have := fit_in r 4
  rw [w64 (by omega) (by omega), Int.tmod_eq_emod_of_nonneg (by omega)]
theorem dfltC : (dflt CycT : Cyc) = cycD := rfl
theorem i0 : Int.toNat 0 = 0 := rfl
theorem i4 : Int.toNat 4 = 4 := rfl
theorem i7 : Int.toNat 7 = 7 := rfl
theorem c256 (c : Cpu) : cycF c 256 = c.2.2.2.1 := rfl
theorem c257 (c : Cpu) : cycF c 257 = c.2.2.2.2 := rfl
set_option maxHeartbeats 4000000 in
theorem asked_ok : GoodF Try.prog 33 askS.spec := by
  have hT := tab_ok (fs := [(70, fitS.spec), (71, cycS.spec), (74, addrS.spec), (73, wideS.spec), (72, narrowS.spec)]) tree_ok
  have hP : SpecsOk Try.prog (tab tree [(70, fitS.spec), (71, cycS.spec), (74, addrS.spec), (73, wideS.spec), (72, narrowS.spec)]) := specs_cons rFit_ok (specs_cons cycOf_ok (specs_cons rAddr_ok (specs_cons rWide_ok (specs_cons rNarrow_ok specs_nil))))
  refine askS.good (fn := Try.f33) hT hP Try.func33 (by kernel_rfl) rfl fun (c : Cpu) (k : Kor) (i : Bool) hp => ?_
  obtain ⟨cn, ci, cr, cq, cm⟩ := c
  obtain ⟨r, op, at_, n⟩ := k
  obtain ⟨hz, h9⟩ : ci.length ≤ 4611686018427387904 ∧ r.length = 9 := hp _ rfl
  clear hp
  repeat' first
    | (refine Go.mk ?_; conv => whnf)
    | refine Need.go ?_ ?_
    | refine NilG.go (fun _ => ?_) (fun _ => ?_)
    | refine Br.dec (fun _ => ?_) (fun _ => ?_)
    | refine Br.go (fun _ => ?_) (fun _ => ?_)
    | refine draw_go hT hP mixed ?_
    | refine round_go hT hP ?_
  all_goals first
    | exact of_decide_eq_true rfl
    | exact hz
    | exact h9
    | exact ⟨_, rfl⟩
    | skip
  all_goals (try refine .mk [] [] _ rfl rfl rfl rfl rfl rfl (tupKB ?_))
  all_goals (simp only [castL_eq] at *)
  all_goals (try omega)
  all_goals clear hT hP
  all_goals (try simp only [tdiv_fit, i4, i7, i0] at *)
  all_goals (try simp only [tmod_fit, bit4, inc_fit, dfltC] at *)
  all_goals (try simp_all [askF, startF, canB, doF, c256, c257, plA, plR])
  all_goals (try omega)
  · exfalso
    rename_i g1 g2 g3 g4
    have g4 : (0 : Int) ≥ (cm.length : Int) := g4
    omega
  · rename_i g1 g2
    have hc : canB (cn, ci, cr, cq, cm) op at_ = false := by unfold canB; rw [decide_eq_false (show ¬ 0 ≤ at_ by omega)]; simp
    simp only [askF, if_neg g1, hc, true_or, if_true]

end Go.Proofs.Ytanaaecfghmmaaa

