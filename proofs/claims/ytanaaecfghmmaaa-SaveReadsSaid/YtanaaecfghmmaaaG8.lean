/- Part 8 of the proof: TabStepA TabStepB TabStepC TabStep2 Drive Drive2 DriveActs Bit Ref Fw37 PortLaw Port TimerLaw Timer Field GetPut Timer2 TimerTicks TimerActs SerialActs SoundLaw Sound Sound2 Sound3 Sound4 Sound5 Byte. No statement is handed in here; conditions: none. -/
import Derived.Test.YtanaaecfghmmaaaG7
import Derived.Test.YtanaaecfghmmaaaG6
import Derived.WalkKit
import Derived.Lib.Walk
import Derived.Lib.Bytealg
/- Steps of a cycle: what the reference says, kind by kind (printed by genstep.py). -/
namespace Go.Proofs.Ytanaaecfghmmaaa
open Go.Fw
set_option linter.unusedVariables false
set_option linter.unusedSimpArgs false
set_option linter.constructorNameAsVariable false
set_option maxRecDepth 100000

set_option maxHeartbeats 4000000 in
theorem rStep0_ok : GoodF Try.prog 93 (rstepS 0).spec := by
  have hT := tab_ok (fs := [(72, narrowS.spec), (73, wideS.spec)]) tree_ok
  have hP : SpecsOk Try.prog (tab tree [(72, narrowS.spec), (73, wideS.spec)]) := specs_cons rNarrow_ok (specs_cons rWide_ok specs_nil)
  refine (rstepS 0).good (fn := Try.f93) hT hP Try.func93 (by kernel_rfl) rfl fun (s : Stp) hq => ?_
  obtain ⟨sd, st, sf, sn⟩ := s
  have hd : sd = 0 := hq _ rfl
  clear hq
  subst hd
  repeat' first
    | (refine Go.mk ?_; conv => whnf)
    | refine Need.go ?_ ?_
    | refine NilG.go (fun _ => ?_) (fun _ => ?_)
    | refine Br.dec (fun _ => ?_) (fun _ => ?_)
    | refine Br.go (fun _ => ?_) (fun _ => ?_)
    | refine draw_go hT hP mixed ?_
    | refine round_go hT hP ?_
  all_goals clear hT hP
  all_goals (refine .mk [] [] _ rfl rfl rfl rfl rfl rfl (imm_int ?_))
  all_goals (show _ = stpE (0, st, sf, sn))
  all_goals (simp [stpE, mostI, useT, fitB, regB, wideB, narrowB] at *)
  all_goals first
    | omega
    | (simp_all; done)
    | (simp_all; omega)
    | (refine ⟨by omega, by omega, ?_, by omega, by omega⟩; rw [Bool.eq_iff_iff]; simp; omega)
    | skip

set_option maxHeartbeats 4000000 in
theorem rStep1_ok : GoodF Try.prog 93 (rstepS 1).spec := by
  have hT := tab_ok (fs := [(72, narrowS.spec), (73, wideS.spec)]) tree_ok
  have hP : SpecsOk Try.prog (tab tree [(72, narrowS.spec), (73, wideS.spec)]) := specs_cons rNarrow_ok (specs_cons rWide_ok specs_nil)
  refine (rstepS 1).good (fn := Try.f93) hT hP Try.func93 (by kernel_rfl) rfl fun (s : Stp) hq => ?_
  obtain ⟨sd, st, sf, sn⟩ := s
  have hd : sd = 1 := hq _ rfl
  clear hq
  subst hd
  repeat' first
    | (refine Go.mk ?_; conv => whnf)
    | refine Need.go ?_ ?_
    | refine NilG.go (fun _ => ?_) (fun _ => ?_)
    | refine Br.dec (fun _ => ?_) (fun _ => ?_)
    | refine Br.go (fun _ => ?_) (fun _ => ?_)
    | refine draw_go hT hP mixed ?_
    | refine round_go hT hP ?_
  all_goals clear hT hP
  all_goals (refine .mk [] [] _ rfl rfl rfl rfl rfl rfl (imm_int ?_))
  all_goals (show _ = stpE (1, st, sf, sn))
  all_goals (simp [stpE, mostI, useT, fitB, regB, wideB, narrowB] at *)
  all_goals first
    | omega
    | (simp_all; done)
    | (simp_all; omega)
    | (refine ⟨by omega, by omega, ?_, by omega, by omega⟩; rw [Bool.eq_iff_iff]; simp; omega)
    | skip

set_option maxHeartbeats 4000000 in
theorem rStep2_ok : GoodF Try.prog 93 (rstepS 2).spec := by
  have hT := tab_ok (fs := [(72, narrowS.spec), (73, wideS.spec)]) tree_ok
  have hP : SpecsOk Try.prog (tab tree [(72, narrowS.spec), (73, wideS.spec)]) := specs_cons rNarrow_ok (specs_cons rWide_ok specs_nil)
  refine (rstepS 2).good (fn := Try.f93) hT hP Try.func93 (by kernel_rfl) rfl fun (s : Stp) hq => ?_
  obtain ⟨sd, st, sf, sn⟩ := s
  have hd : sd = 2 := hq _ rfl
  clear hq
  subst hd
  repeat' first
    | (refine Go.mk ?_; conv => whnf)
    | refine Need.go ?_ ?_
    | refine NilG.go (fun _ => ?_) (fun _ => ?_)
    | refine Br.dec (fun _ => ?_) (fun _ => ?_)
    | refine Br.go (fun _ => ?_) (fun _ => ?_)
    | refine draw_go hT hP mixed ?_
    | refine round_go hT hP ?_
  all_goals clear hT hP
  all_goals (refine .mk [] [] _ rfl rfl rfl rfl rfl rfl (imm_int ?_))
  all_goals (show _ = stpE (2, st, sf, sn))
  all_goals (simp [stpE, mostI, useT, fitB, regB, wideB, narrowB] at *)
  all_goals first
    | omega
    | (simp_all; done)
    | (simp_all; omega)
    | (refine ⟨by omega, by omega, ?_, by omega, by omega⟩; rw [Bool.eq_iff_iff]; simp; omega)
    | skip

set_option maxHeartbeats 4000000 in
theorem rStep3_ok : GoodF Try.prog 93 (rstepS 3).spec := by
  have hT := tab_ok (fs := [(72, narrowS.spec), (73, wideS.spec)]) tree_ok
  have hP : SpecsOk Try.prog (tab tree [(72, narrowS.spec), (73, wideS.spec)]) := specs_cons rNarrow_ok (specs_cons rWide_ok specs_nil)
  refine (rstepS 3).good (fn := Try.f93) hT hP Try.func93 (by kernel_rfl) rfl fun (s : Stp) hq => ?_
  obtain ⟨sd, st, sf, sn⟩ := s
  have hd : sd = 3 := hq _ rfl
  clear hq
  subst hd
  repeat' first
    | (refine Go.mk ?_; conv => whnf)
    | refine Need.go ?_ ?_
    | refine NilG.go (fun _ => ?_) (fun _ => ?_)
    | refine Br.dec (fun _ => ?_) (fun _ => ?_)
    | refine Br.go (fun _ => ?_) (fun _ => ?_)
    | refine draw_go hT hP mixed ?_
    | refine round_go hT hP ?_
  all_goals clear hT hP
  all_goals (refine .mk [] [] _ rfl rfl rfl rfl rfl rfl (imm_int ?_))
  all_goals (show _ = stpE (3, st, sf, sn))
  all_goals (simp [stpE, mostI, useT, fitB, regB, wideB, narrowB] at *)
  all_goals first
    | omega
    | (simp_all; done)
    | (simp_all; omega)
    | (refine ⟨by omega, by omega, ?_, by omega, by omega⟩; rw [Bool.eq_iff_iff]; simp; omega)
    | skip

set_option maxHeartbeats 4000000 in
theorem rStep4_ok : GoodF Try.prog 93 (rstepS 4).spec := by
  have hT := tab_ok (fs := [(72, narrowS.spec), (73, wideS.spec)]) tree_ok
  have hP : SpecsOk Try.prog (tab tree [(72, narrowS.spec), (73, wideS.spec)]) := specs_cons rNarrow_ok (specs_cons rWide_ok specs_nil)
  refine (rstepS 4).good (fn := Try.f93) hT hP Try.func93 (by kernel_rfl) rfl fun (s : Stp) hq => ?_
  obtain ⟨sd, st, sf, sn⟩ := s
  have hd : sd = 4 := hq _ rfl
  clear hq
  subst hd
  repeat' first
    | (refine Go.mk ?_; conv => whnf)
    | refine Need.go ?_ ?_
    | refine NilG.go (fun _ => ?_) (fun _ => ?_)
    | refine Br.dec (fun _ => ?_) (fun _ => ?_)
    | refine Br.go (fun _ => ?_) (fun _ => ?_)
    | refine draw_go hT hP mixed ?_
    | refine round_go hT hP ?_
  all_goals clear hT hP
  all_goals (refine .mk [] [] _ rfl rfl rfl rfl rfl rfl (imm_int ?_))
  all_goals (show _ = stpE (4, st, sf, sn))
  all_goals (simp [stpE, mostI, useT, fitB, regB, wideB, narrowB] at *)
  all_goals first
    | omega
    | (simp_all; done)
    | (simp_all; omega)
    | (refine ⟨by omega, by omega, ?_, by omega, by omega⟩; rw [Bool.eq_iff_iff]; simp; omega)
    | skip

set_option maxHeartbeats 4000000 in
theorem rStep5_ok : GoodF Try.prog 93 (rstepS 5).spec := by
  have hT := tab_ok (fs := [(72, narrowS.spec), (73, wideS.spec)]) tree_ok
  have hP : SpecsOk Try.prog (tab tree [(72, narrowS.spec), (73, wideS.spec)]) := specs_cons rNarrow_ok (specs_cons rWide_ok specs_nil)
  refine (rstepS 5).good (fn := Try.f93) hT hP Try.func93 (by kernel_rfl) rfl fun (s : Stp) hq => ?_
  obtain ⟨sd, st, sf, sn⟩ := s
  have hd : sd = 5 := hq _ rfl
  clear hq
  subst hd
  repeat' first
    | (refine Go.mk ?_; conv => whnf)
    | refine Need.go ?_ ?_
    | refine NilG.go (fun _ => ?_) (fun _ => ?_)
    | refine Br.dec (fun _ => ?_) (fun _ => ?_)
    | refine Br.go (fun _ => ?_) (fun _ => ?_)
    | refine draw_go hT hP mixed ?_
    | refine round_go hT hP ?_
  all_goals clear hT hP
  all_goals (refine .mk [] [] _ rfl rfl rfl rfl rfl rfl (imm_int ?_))
  all_goals (show _ = stpE (5, st, sf, sn))
  all_goals (simp [stpE, mostI, useT, fitB, regB, wideB, narrowB] at *)
  all_goals first
    | omega
    | (simp_all; done)
    | (simp_all; omega)
    | (refine ⟨by omega, by omega, ?_, by omega, by omega⟩; rw [Bool.eq_iff_iff]; simp; omega)
    | skip

set_option maxHeartbeats 4000000 in
theorem rStep6_ok : GoodF Try.prog 93 (rstepS 6).spec := by
  have hT := tab_ok (fs := [(72, narrowS.spec), (73, wideS.spec)]) tree_ok
  have hP : SpecsOk Try.prog (tab tree [(72, narrowS.spec), (73, wideS.spec)]) := specs_cons rNarrow_ok (specs_cons rWide_ok specs_nil)
  refine (rstepS 6).good (fn := Try.f93) hT hP Try.func93 (by kernel_rfl) rfl fun (s : Stp) hq => ?_
  obtain ⟨sd, st, sf, sn⟩ := s
  have hd : sd = 6 := hq _ rfl
  clear hq
  subst hd
  repeat' first
    | (refine Go.mk ?_; conv => whnf)
    | refine Need.go ?_ ?_
    | refine NilG.go (fun _ => ?_) (fun _ => ?_)
    | refine Br.dec (fun _ => ?_) (fun _ => ?_)
    | refine Br.go (fun _ => ?_) (fun _ => ?_)
    | refine draw_go hT hP mixed ?_
    | refine round_go hT hP ?_
  all_goals clear hT hP
  all_goals (refine .mk [] [] _ rfl rfl rfl rfl rfl rfl (imm_int ?_))
  all_goals (show _ = stpE (6, st, sf, sn))
  all_goals (simp [stpE, mostI, useT, fitB, regB, wideB, narrowB] at *)
  all_goals first
    | omega
    | (simp_all; done)
    | (simp_all; omega)
    | (refine ⟨by omega, by omega, ?_, by omega, by omega⟩; rw [Bool.eq_iff_iff]; simp; omega)
    | skip

set_option maxHeartbeats 4000000 in
theorem rStep7_ok : GoodF Try.prog 93 (rstepS 7).spec := by
  have hT := tab_ok (fs := [(72, narrowS.spec), (73, wideS.spec)]) tree_ok
  have hP : SpecsOk Try.prog (tab tree [(72, narrowS.spec), (73, wideS.spec)]) := specs_cons rNarrow_ok (specs_cons rWide_ok specs_nil)
  refine (rstepS 7).good (fn := Try.f93) hT hP Try.func93 (by kernel_rfl) rfl fun (s : Stp) hq => ?_
  obtain ⟨sd, st, sf, sn⟩ := s
  have hd : sd = 7 := hq _ rfl
  clear hq
  subst hd
  repeat' first
    | (refine Go.mk ?_; conv => whnf)
    | refine Need.go ?_ ?_
    | refine NilG.go (fun _ => ?_) (fun _ => ?_)
    | refine Br.dec (fun _ => ?_) (fun _ => ?_)
    | refine Br.go (fun _ => ?_) (fun _ => ?_)
    | refine draw_go hT hP mixed ?_
    | refine round_go hT hP ?_
  all_goals clear hT hP
  all_goals (refine .mk [] [] _ rfl rfl rfl rfl rfl rfl (imm_int ?_))
  all_goals (show _ = stpE (7, st, sf, sn))
  all_goals (simp [stpE, mostI, useT, fitB, regB, wideB, narrowB] at *)
  all_goals first
    | omega
    | (simp_all; done)
    | (simp_all; omega)
    | (refine ⟨by omega, by omega, ?_, by omega, by omega⟩; rw [Bool.eq_iff_iff]; simp; omega)
    | skip

set_option maxHeartbeats 4000000 in
theorem rStep8_ok : GoodF Try.prog 93 (rstepS 8).spec := by
  have hT := tab_ok (fs := [(72, narrowS.spec), (73, wideS.spec)]) tree_ok
  have hP : SpecsOk Try.prog (tab tree [(72, narrowS.spec), (73, wideS.spec)]) := specs_cons rNarrow_ok (specs_cons rWide_ok specs_nil)
  refine (rstepS 8).good (fn := Try.f93) hT hP Try.func93 (by kernel_rfl) rfl fun (s : Stp) hq => ?_
  obtain ⟨sd, st, sf, sn⟩ := s
  have hd : sd = 8 := hq _ rfl
  clear hq
  subst hd
  repeat' first
    | (refine Go.mk ?_; conv => whnf)
    | refine Need.go ?_ ?_
    | refine NilG.go (fun _ => ?_) (fun _ => ?_)
    | refine Br.dec (fun _ => ?_) (fun _ => ?_)
    | refine Br.go (fun _ => ?_) (fun _ => ?_)
    | refine draw_go hT hP mixed ?_
    | refine round_go hT hP ?_
  all_goals clear hT hP
  all_goals (refine .mk [] [] _ rfl rfl rfl rfl rfl rfl (imm_int ?_))
  all_goals (show _ = stpE (8, st, sf, sn))
  all_goals (simp [stpE, mostI, useT, fitB, regB, wideB, narrowB] at *)
  all_goals first
    | omega
    | (simp_all; done)
    | (simp_all; omega)
    | (refine ⟨by omega, by omega, ?_, by omega, by omega⟩; rw [Bool.eq_iff_iff]; simp; omega)
    | skip

end Go.Proofs.Ytanaaecfghmmaaa

/- Steps of a cycle: what the reference says, kind by kind (printed by genstep.py). -/
namespace Go.Proofs.Ytanaaecfghmmaaa
open Go.Fw
set_option linter.unusedVariables false
set_option linter.unusedSimpArgs false
set_option linter.constructorNameAsVariable false
set_option maxRecDepth 100000

set_option maxHeartbeats 4000000 in
theorem rStep9_ok : GoodF Try.prog 93 (rstepS 9).spec := by
  have hT := tab_ok (fs := [(72, narrowS.spec), (73, wideS.spec)]) tree_ok
  have hP : SpecsOk Try.prog (tab tree [(72, narrowS.spec), (73, wideS.spec)]) := specs_cons rNarrow_ok (specs_cons rWide_ok specs_nil)
  refine (rstepS 9).good (fn := Try.f93) hT hP Try.func93 (by kernel_rfl) rfl fun (s : Stp) hq => ?_
  obtain ⟨sd, st, sf, sn⟩ := s
  have hd : sd = 9 := hq _ rfl
  clear hq
  subst hd
  repeat' first
    | (refine Go.mk ?_; conv => whnf)
    | refine Need.go ?_ ?_
    | refine NilG.go (fun _ => ?_) (fun _ => ?_)
    | refine Br.dec (fun _ => ?_) (fun _ => ?_)
    | refine Br.go (fun _ => ?_) (fun _ => ?_)
    | refine draw_go hT hP mixed ?_
    | refine round_go hT hP ?_
  all_goals clear hT hP
  all_goals (refine .mk [] [] _ rfl rfl rfl rfl rfl rfl (imm_int ?_))
  all_goals (show _ = stpE (9, st, sf, sn))
  all_goals (simp [stpE, mostI, useT, fitB, regB, wideB, narrowB] at *)
  all_goals first
    | omega
    | (simp_all; done)
    | (simp_all; omega)
    | (refine ⟨by omega, by omega, ?_, by omega, by omega⟩; rw [Bool.eq_iff_iff]; simp; omega)
    | skip

set_option maxHeartbeats 4000000 in
theorem rStep10_ok : GoodF Try.prog 93 (rstepS 10).spec := by
  have hT := tab_ok (fs := [(72, narrowS.spec), (73, wideS.spec)]) tree_ok
  have hP : SpecsOk Try.prog (tab tree [(72, narrowS.spec), (73, wideS.spec)]) := specs_cons rNarrow_ok (specs_cons rWide_ok specs_nil)
  refine (rstepS 10).good (fn := Try.f93) hT hP Try.func93 (by kernel_rfl) rfl fun (s : Stp) hq => ?_
  obtain ⟨sd, st, sf, sn⟩ := s
  have hd : sd = 10 := hq _ rfl
  clear hq
  subst hd
  repeat' first
    | (refine Go.mk ?_; conv => whnf)
    | refine Need.go ?_ ?_
    | refine NilG.go (fun _ => ?_) (fun _ => ?_)
    | refine Br.dec (fun _ => ?_) (fun _ => ?_)
    | refine Br.go (fun _ => ?_) (fun _ => ?_)
    | refine draw_go hT hP mixed ?_
    | refine round_go hT hP ?_
  all_goals clear hT hP
  all_goals (refine .mk [] [] _ rfl rfl rfl rfl rfl rfl (imm_int ?_))
  all_goals (show _ = stpE (10, st, sf, sn))
  all_goals (simp [stpE, mostI, useT, fitB, regB, wideB, narrowB] at *)
  all_goals first
    | omega
    | (simp_all; done)
    | (simp_all; omega)
    | (refine ⟨by omega, by omega, ?_, by omega, by omega⟩; rw [Bool.eq_iff_iff]; simp; omega)
    | skip

set_option maxHeartbeats 4000000 in
theorem rStep11_ok : GoodF Try.prog 93 (rstepS 11).spec := by
  have hT := tab_ok (fs := [(72, narrowS.spec), (73, wideS.spec)]) tree_ok
  have hP : SpecsOk Try.prog (tab tree [(72, narrowS.spec), (73, wideS.spec)]) := specs_cons rNarrow_ok (specs_cons rWide_ok specs_nil)
  refine (rstepS 11).good (fn := Try.f93) hT hP Try.func93 (by kernel_rfl) rfl fun (s : Stp) hq => ?_
  obtain ⟨sd, st, sf, sn⟩ := s
  have hd : sd = 11 := hq _ rfl
  clear hq
  subst hd
  repeat' first
    | (refine Go.mk ?_; conv => whnf)
    | refine Need.go ?_ ?_
    | refine NilG.go (fun _ => ?_) (fun _ => ?_)
    | refine Br.dec (fun _ => ?_) (fun _ => ?_)
    | refine Br.go (fun _ => ?_) (fun _ => ?_)
    | refine draw_go hT hP mixed ?_
    | refine round_go hT hP ?_
  all_goals clear hT hP
  all_goals (refine .mk [] [] _ rfl rfl rfl rfl rfl rfl (imm_int ?_))
  all_goals (show _ = stpE (11, st, sf, sn))
  all_goals (simp [stpE, mostI, useT, fitB, regB, wideB, narrowB] at *)
  all_goals first
    | omega
    | (simp_all; done)
    | (simp_all; omega)
    | (refine ⟨by omega, by omega, ?_, by omega, by omega⟩; rw [Bool.eq_iff_iff]; simp; omega)
    | skip

set_option maxHeartbeats 4000000 in
theorem rStep12_ok : GoodF Try.prog 93 (rstepS 12).spec := by
  have hT := tab_ok (fs := [(72, narrowS.spec), (73, wideS.spec)]) tree_ok
  have hP : SpecsOk Try.prog (tab tree [(72, narrowS.spec), (73, wideS.spec)]) := specs_cons rNarrow_ok (specs_cons rWide_ok specs_nil)
  refine (rstepS 12).good (fn := Try.f93) hT hP Try.func93 (by kernel_rfl) rfl fun (s : Stp) hq => ?_
  obtain ⟨sd, st, sf, sn⟩ := s
  have hd : sd = 12 := hq _ rfl
  clear hq
  subst hd
  repeat' first
    | (refine Go.mk ?_; conv => whnf)
    | refine Need.go ?_ ?_
    | refine NilG.go (fun _ => ?_) (fun _ => ?_)
    | refine Br.dec (fun _ => ?_) (fun _ => ?_)
    | refine Br.go (fun _ => ?_) (fun _ => ?_)
    | refine draw_go hT hP mixed ?_
    | refine round_go hT hP ?_
  all_goals clear hT hP
  all_goals (refine .mk [] [] _ rfl rfl rfl rfl rfl rfl (imm_int ?_))
  all_goals (show _ = stpE (12, st, sf, sn))
  all_goals (simp [stpE, mostI, useT, fitB, regB, wideB, narrowB] at *)
  all_goals first
    | omega
    | (simp_all; done)
    | (simp_all; omega)
    | (refine ⟨by omega, by omega, ?_, by omega, by omega⟩; rw [Bool.eq_iff_iff]; simp; omega)
    | skip

set_option maxHeartbeats 4000000 in
theorem rStep13_ok : GoodF Try.prog 93 (rstepS 13).spec := by
  have hT := tab_ok (fs := [(72, narrowS.spec), (73, wideS.spec)]) tree_ok
  have hP : SpecsOk Try.prog (tab tree [(72, narrowS.spec), (73, wideS.spec)]) := specs_cons rNarrow_ok (specs_cons rWide_ok specs_nil)
  refine (rstepS 13).good (fn := Try.f93) hT hP Try.func93 (by kernel_rfl) rfl fun (s : Stp) hq => ?_
  obtain ⟨sd, st, sf, sn⟩ := s
  have hd : sd = 13 := hq _ rfl
  clear hq
  subst hd
  repeat' first
    | (refine Go.mk ?_; conv => whnf)
    | refine Need.go ?_ ?_
    | refine NilG.go (fun _ => ?_) (fun _ => ?_)
    | refine Br.dec (fun _ => ?_) (fun _ => ?_)
    | refine Br.go (fun _ => ?_) (fun _ => ?_)
    | refine draw_go hT hP mixed ?_
    | refine round_go hT hP ?_
  all_goals clear hT hP
  all_goals (refine .mk [] [] _ rfl rfl rfl rfl rfl rfl (imm_int ?_))
  all_goals (show _ = stpE (13, st, sf, sn))
  all_goals (simp [stpE, mostI, useT, fitB, regB, wideB, narrowB] at *)
  all_goals first
    | omega
    | (simp_all; done)
    | (simp_all; omega)
    | (refine ⟨by omega, by omega, ?_, by omega, by omega⟩; rw [Bool.eq_iff_iff]; simp; omega)
    | skip

set_option maxHeartbeats 4000000 in
theorem rStep14_ok : GoodF Try.prog 93 (rstepS 14).spec := by
  have hT := tab_ok (fs := [(72, narrowS.spec), (73, wideS.spec)]) tree_ok
  have hP : SpecsOk Try.prog (tab tree [(72, narrowS.spec), (73, wideS.spec)]) := specs_cons rNarrow_ok (specs_cons rWide_ok specs_nil)
  refine (rstepS 14).good (fn := Try.f93) hT hP Try.func93 (by kernel_rfl) rfl fun (s : Stp) hq => ?_
  obtain ⟨sd, st, sf, sn⟩ := s
  have hd : sd = 14 := hq _ rfl
  clear hq
  subst hd
  repeat' first
    | (refine Go.mk ?_; conv => whnf)
    | refine Need.go ?_ ?_
    | refine NilG.go (fun _ => ?_) (fun _ => ?_)
    | refine Br.dec (fun _ => ?_) (fun _ => ?_)
    | refine Br.go (fun _ => ?_) (fun _ => ?_)
    | refine draw_go hT hP mixed ?_
    | refine round_go hT hP ?_
  all_goals clear hT hP
  all_goals (refine .mk [] [] _ rfl rfl rfl rfl rfl rfl (imm_int ?_))
  all_goals (show _ = stpE (14, st, sf, sn))
  all_goals (simp [stpE, mostI, useT, fitB, regB, wideB, narrowB] at *)
  all_goals first
    | omega
    | (simp_all; done)
    | (simp_all; omega)
    | (refine ⟨by omega, by omega, ?_, by omega, by omega⟩; rw [Bool.eq_iff_iff]; simp; omega)
    | skip

set_option maxHeartbeats 4000000 in
theorem rStep15_ok : GoodF Try.prog 93 (rstepS 15).spec := by
  have hT := tab_ok (fs := [(72, narrowS.spec), (73, wideS.spec)]) tree_ok
  have hP : SpecsOk Try.prog (tab tree [(72, narrowS.spec), (73, wideS.spec)]) := specs_cons rNarrow_ok (specs_cons rWide_ok specs_nil)
  refine (rstepS 15).good (fn := Try.f93) hT hP Try.func93 (by kernel_rfl) rfl fun (s : Stp) hq => ?_
  obtain ⟨sd, st, sf, sn⟩ := s
  have hd : sd = 15 := hq _ rfl
  clear hq
  subst hd
  repeat' first
    | (refine Go.mk ?_; conv => whnf)
    | refine Need.go ?_ ?_
    | refine NilG.go (fun _ => ?_) (fun _ => ?_)
    | refine Br.dec (fun _ => ?_) (fun _ => ?_)
    | refine Br.go (fun _ => ?_) (fun _ => ?_)
    | refine draw_go hT hP mixed ?_
    | refine round_go hT hP ?_
  all_goals clear hT hP
  all_goals (refine .mk [] [] _ rfl rfl rfl rfl rfl rfl (imm_int ?_))
  all_goals (show _ = stpE (15, st, sf, sn))
  all_goals (simp [stpE, mostI, useT, fitB, regB, wideB, narrowB] at *)
  all_goals first
    | omega
    | (simp_all; done)
    | (simp_all; omega)
    | (refine ⟨by omega, by omega, ?_, by omega, by omega⟩; rw [Bool.eq_iff_iff]; simp; omega)
    | skip

set_option maxHeartbeats 4000000 in
theorem rStep16_ok : GoodF Try.prog 93 (rstepS 16).spec := by
  have hT := tab_ok (fs := [(72, narrowS.spec), (73, wideS.spec)]) tree_ok
  have hP : SpecsOk Try.prog (tab tree [(72, narrowS.spec), (73, wideS.spec)]) := specs_cons rNarrow_ok (specs_cons rWide_ok specs_nil)
  refine (rstepS 16).good (fn := Try.f93) hT hP Try.func93 (by kernel_rfl) rfl fun (s : Stp) hq => ?_
  obtain ⟨sd, st, sf, sn⟩ := s
  have hd : sd = 16 := hq _ rfl
  clear hq
  subst hd
  repeat' first
    | (refine Go.mk ?_; conv => whnf)
    | refine Need.go ?_ ?_
    | refine NilG.go (fun _ => ?_) (fun _ => ?_)
    | refine Br.dec (fun _ => ?_) (fun _ => ?_)
    | refine Br.go (fun _ => ?_) (fun _ => ?_)
    | refine draw_go hT hP mixed ?_
    | refine round_go hT hP ?_
  all_goals clear hT hP
  all_goals (refine .mk [] [] _ rfl rfl rfl rfl rfl rfl (imm_int ?_))
  all_goals (show _ = stpE (16, st, sf, sn))
  all_goals (simp [stpE, mostI, useT, fitB, regB, wideB, narrowB] at *)
  all_goals first
    | omega
    | (simp_all; done)
    | (simp_all; omega)
    | (refine ⟨by omega, by omega, ?_, by omega, by omega⟩; rw [Bool.eq_iff_iff]; simp; omega)
    | skip

set_option maxHeartbeats 4000000 in
theorem rStep17_ok : GoodF Try.prog 93 (rstepS 17).spec := by
  have hT := tab_ok (fs := [(72, narrowS.spec), (73, wideS.spec)]) tree_ok
  have hP : SpecsOk Try.prog (tab tree [(72, narrowS.spec), (73, wideS.spec)]) := specs_cons rNarrow_ok (specs_cons rWide_ok specs_nil)
  refine (rstepS 17).good (fn := Try.f93) hT hP Try.func93 (by kernel_rfl) rfl fun (s : Stp) hq => ?_
  obtain ⟨sd, st, sf, sn⟩ := s
  have hd : sd = 17 := hq _ rfl
  clear hq
  subst hd
  repeat' first
    | (refine Go.mk ?_; conv => whnf)
    | refine Need.go ?_ ?_
    | refine NilG.go (fun _ => ?_) (fun _ => ?_)
    | refine Br.dec (fun _ => ?_) (fun _ => ?_)
    | refine Br.go (fun _ => ?_) (fun _ => ?_)
    | refine draw_go hT hP mixed ?_
    | refine round_go hT hP ?_
  all_goals clear hT hP
  all_goals (refine .mk [] [] _ rfl rfl rfl rfl rfl rfl (imm_int ?_))
  all_goals (show _ = stpE (17, st, sf, sn))
  all_goals (simp [stpE, mostI, useT, fitB, regB, wideB, narrowB] at *)
  all_goals first
    | omega
    | (simp_all; done)
    | (simp_all; omega)
    | (refine ⟨by omega, by omega, ?_, by omega, by omega⟩; rw [Bool.eq_iff_iff]; simp; omega)
    | skip

end Go.Proofs.Ytanaaecfghmmaaa

/- Steps of a cycle: what the reference says, kind by kind (printed by genstep.py). -/
namespace Go.Proofs.Ytanaaecfghmmaaa
open Go.Fw
set_option linter.unusedVariables false
set_option linter.unusedSimpArgs false
set_option linter.constructorNameAsVariable false
set_option maxRecDepth 100000

set_option maxHeartbeats 4000000 in
theorem rStep18_ok : GoodF Try.prog 93 (rstepS 18).spec := by
  have hT := tab_ok (fs := [(72, narrowS.spec), (73, wideS.spec)]) tree_ok
  have hP : SpecsOk Try.prog (tab tree [(72, narrowS.spec), (73, wideS.spec)]) := specs_cons rNarrow_ok (specs_cons rWide_ok specs_nil)
  refine (rstepS 18).good (fn := Try.f93) hT hP Try.func93 (by kernel_rfl) rfl fun (s : Stp) hq => ?_
  obtain ⟨sd, st, sf, sn⟩ := s
  have hd : sd = 18 := hq _ rfl
  clear hq
  subst hd
  repeat' first
    | (refine Go.mk ?_; conv => whnf)
    | refine Need.go ?_ ?_
    | refine NilG.go (fun _ => ?_) (fun _ => ?_)
    | refine Br.dec (fun _ => ?_) (fun _ => ?_)
    | refine Br.go (fun _ => ?_) (fun _ => ?_)
    | refine draw_go hT hP mixed ?_
    | refine round_go hT hP ?_
  all_goals clear hT hP
  all_goals (refine .mk [] [] _ rfl rfl rfl rfl rfl rfl (imm_int ?_))
  all_goals (show _ = stpE (18, st, sf, sn))
  all_goals (simp [stpE, mostI, useT, fitB, regB, wideB, narrowB] at *)
  all_goals first
    | omega
    | (simp_all; done)
    | (simp_all; omega)
    | (refine ⟨by omega, by omega, ?_, by omega, by omega⟩; rw [Bool.eq_iff_iff]; simp; omega)
    | skip

set_option maxHeartbeats 4000000 in
theorem rStep19_ok : GoodF Try.prog 93 (rstepS 19).spec := by
  have hT := tab_ok (fs := [(72, narrowS.spec), (73, wideS.spec)]) tree_ok
  have hP : SpecsOk Try.prog (tab tree [(72, narrowS.spec), (73, wideS.spec)]) := specs_cons rNarrow_ok (specs_cons rWide_ok specs_nil)
  refine (rstepS 19).good (fn := Try.f93) hT hP Try.func93 (by kernel_rfl) rfl fun (s : Stp) hq => ?_
  obtain ⟨sd, st, sf, sn⟩ := s
  have hd : sd = 19 := hq _ rfl
  clear hq
  subst hd
  repeat' first
    | (refine Go.mk ?_; conv => whnf)
    | refine Need.go ?_ ?_
    | refine NilG.go (fun _ => ?_) (fun _ => ?_)
    | refine Br.dec (fun _ => ?_) (fun _ => ?_)
    | refine Br.go (fun _ => ?_) (fun _ => ?_)
    | refine draw_go hT hP mixed ?_
    | refine round_go hT hP ?_
  all_goals clear hT hP
  all_goals (refine .mk [] [] _ rfl rfl rfl rfl rfl rfl (imm_int ?_))
  all_goals (show _ = stpE (19, st, sf, sn))
  all_goals (simp [stpE, mostI, useT, fitB, regB, wideB, narrowB] at *)
  all_goals first
    | omega
    | (simp_all; done)
    | (simp_all; omega)
    | (refine ⟨by omega, by omega, ?_, by omega, by omega⟩; rw [Bool.eq_iff_iff]; simp; omega)
    | skip

set_option maxHeartbeats 4000000 in
theorem rStep20_ok : GoodF Try.prog 93 (rstepS 20).spec := by
  have hT := tab_ok (fs := [(72, narrowS.spec), (73, wideS.spec)]) tree_ok
  have hP : SpecsOk Try.prog (tab tree [(72, narrowS.spec), (73, wideS.spec)]) := specs_cons rNarrow_ok (specs_cons rWide_ok specs_nil)
  refine (rstepS 20).good (fn := Try.f93) hT hP Try.func93 (by kernel_rfl) rfl fun (s : Stp) hq => ?_
  obtain ⟨sd, st, sf, sn⟩ := s
  have hd : sd = 20 := hq _ rfl
  clear hq
  subst hd
  repeat' first
    | (refine Go.mk ?_; conv => whnf)
    | refine Need.go ?_ ?_
    | refine NilG.go (fun _ => ?_) (fun _ => ?_)
    | refine Br.dec (fun _ => ?_) (fun _ => ?_)
    | refine Br.go (fun _ => ?_) (fun _ => ?_)
    | refine draw_go hT hP mixed ?_
    | refine round_go hT hP ?_
  all_goals clear hT hP
  all_goals (refine .mk [] [] _ rfl rfl rfl rfl rfl rfl (imm_int ?_))
  all_goals (show _ = stpE (20, st, sf, sn))
  all_goals (simp [stpE, mostI, useT, fitB, regB, wideB, narrowB] at *)
  all_goals first
    | omega
    | (simp_all; done)
    | (simp_all; omega)
    | (refine ⟨by omega, by omega, ?_, by omega, by omega⟩; rw [Bool.eq_iff_iff]; simp; omega)
    | skip

set_option maxHeartbeats 4000000 in
theorem rStep21_ok : GoodF Try.prog 93 (rstepS 21).spec := by
  have hT := tab_ok (fs := [(72, narrowS.spec), (73, wideS.spec)]) tree_ok
  have hP : SpecsOk Try.prog (tab tree [(72, narrowS.spec), (73, wideS.spec)]) := specs_cons rNarrow_ok (specs_cons rWide_ok specs_nil)
  refine (rstepS 21).good (fn := Try.f93) hT hP Try.func93 (by kernel_rfl) rfl fun (s : Stp) hq => ?_
  obtain ⟨sd, st, sf, sn⟩ := s
  have hd : sd = 21 := hq _ rfl
  clear hq
  subst hd
  repeat' first
    | (refine Go.mk ?_; conv => whnf)
    | refine Need.go ?_ ?_
    | refine NilG.go (fun _ => ?_) (fun _ => ?_)
    | refine Br.dec (fun _ => ?_) (fun _ => ?_)
    | refine Br.go (fun _ => ?_) (fun _ => ?_)
    | refine draw_go hT hP mixed ?_
    | refine round_go hT hP ?_
  all_goals clear hT hP
  all_goals (refine .mk [] [] _ rfl rfl rfl rfl rfl rfl (imm_int ?_))
  all_goals (show _ = stpE (21, st, sf, sn))
  all_goals (simp [stpE, mostI, useT, fitB, regB, wideB, narrowB] at *)
  all_goals first
    | omega
    | (simp_all; done)
    | (simp_all; omega)
    | (refine ⟨by omega, by omega, ?_, by omega, by omega⟩; rw [Bool.eq_iff_iff]; simp; omega)
    | skip

set_option maxHeartbeats 4000000 in
theorem rStep22_ok : GoodF Try.prog 93 (rstepS 22).spec := by
  have hT := tab_ok (fs := [(72, narrowS.spec), (73, wideS.spec)]) tree_ok
  have hP : SpecsOk Try.prog (tab tree [(72, narrowS.spec), (73, wideS.spec)]) := specs_cons rNarrow_ok (specs_cons rWide_ok specs_nil)
  refine (rstepS 22).good (fn := Try.f93) hT hP Try.func93 (by kernel_rfl) rfl fun (s : Stp) hq => ?_
  obtain ⟨sd, st, sf, sn⟩ := s
  have hd : sd = 22 := hq _ rfl
  clear hq
  subst hd
  repeat' first
    | (refine Go.mk ?_; conv => whnf)
    | refine Need.go ?_ ?_
    | refine NilG.go (fun _ => ?_) (fun _ => ?_)
    | refine Br.dec (fun _ => ?_) (fun _ => ?_)
    | refine Br.go (fun _ => ?_) (fun _ => ?_)
    | refine draw_go hT hP mixed ?_
    | refine round_go hT hP ?_
  all_goals clear hT hP
  all_goals (refine .mk [] [] _ rfl rfl rfl rfl rfl rfl (imm_int ?_))
  all_goals (show _ = stpE (22, st, sf, sn))
  all_goals (simp [stpE, mostI, useT, fitB, regB, wideB, narrowB] at *)
  all_goals first
    | omega
    | (simp_all; done)
    | (simp_all; omega)
    | (refine ⟨by omega, by omega, ?_, by omega, by omega⟩; rw [Bool.eq_iff_iff]; simp; omega)
    | skip

set_option maxHeartbeats 4000000 in
theorem rStep23_ok : GoodF Try.prog 93 (rstepS 23).spec := by
  have hT := tab_ok (fs := [(72, narrowS.spec), (73, wideS.spec)]) tree_ok
  have hP : SpecsOk Try.prog (tab tree [(72, narrowS.spec), (73, wideS.spec)]) := specs_cons rNarrow_ok (specs_cons rWide_ok specs_nil)
  refine (rstepS 23).good (fn := Try.f93) hT hP Try.func93 (by kernel_rfl) rfl fun (s : Stp) hq => ?_
  obtain ⟨sd, st, sf, sn⟩ := s
  have hd : sd = 23 := hq _ rfl
  clear hq
  subst hd
  repeat' first
    | (refine Go.mk ?_; conv => whnf)
    | refine Need.go ?_ ?_
    | refine NilG.go (fun _ => ?_) (fun _ => ?_)
    | refine Br.dec (fun _ => ?_) (fun _ => ?_)
    | refine Br.go (fun _ => ?_) (fun _ => ?_)
    | refine draw_go hT hP mixed ?_
    | refine round_go hT hP ?_
  all_goals clear hT hP
  all_goals (refine .mk [] [] _ rfl rfl rfl rfl rfl rfl (imm_int ?_))
  all_goals (show _ = stpE (23, st, sf, sn))
  all_goals (simp [stpE, mostI, useT, fitB, regB, wideB, narrowB] at *)
  all_goals first
    | omega
    | (simp_all; done)
    | (simp_all; omega)
    | (refine ⟨by omega, by omega, ?_, by omega, by omega⟩; rw [Bool.eq_iff_iff]; simp; omega)
    | skip

set_option maxHeartbeats 4000000 in
theorem rStep24_ok : GoodF Try.prog 93 (rstepS 24).spec := by
  have hT := tab_ok (fs := [(72, narrowS.spec), (73, wideS.spec)]) tree_ok
  have hP : SpecsOk Try.prog (tab tree [(72, narrowS.spec), (73, wideS.spec)]) := specs_cons rNarrow_ok (specs_cons rWide_ok specs_nil)
  refine (rstepS 24).good (fn := Try.f93) hT hP Try.func93 (by kernel_rfl) rfl fun (s : Stp) hq => ?_
  obtain ⟨sd, st, sf, sn⟩ := s
  have hd : sd = 24 := hq _ rfl
  clear hq
  subst hd
  repeat' first
    | (refine Go.mk ?_; conv => whnf)
    | refine Need.go ?_ ?_
    | refine NilG.go (fun _ => ?_) (fun _ => ?_)
    | refine Br.dec (fun _ => ?_) (fun _ => ?_)
    | refine Br.go (fun _ => ?_) (fun _ => ?_)
    | refine draw_go hT hP mixed ?_
    | refine round_go hT hP ?_
  all_goals clear hT hP
  all_goals (refine .mk [] [] _ rfl rfl rfl rfl rfl rfl (imm_int ?_))
  all_goals (show _ = stpE (24, st, sf, sn))
  all_goals (simp [stpE, mostI, useT, fitB, regB, wideB, narrowB] at *)
  all_goals first
    | omega
    | (simp_all; done)
    | (simp_all; omega)
    | (refine ⟨by omega, by omega, ?_, by omega, by omega⟩; rw [Bool.eq_iff_iff]; simp; omega)
    | skip
theorem rStepX_ok : GoodF Try.prog 93 rstepXS.spec := by
  have hT := tab_ok (fs := [(72, narrowS.spec), (73, wideS.spec)]) tree_ok
  have hP : SpecsOk Try.prog (tab tree [(72, narrowS.spec), (73, wideS.spec)]) := specs_cons rNarrow_ok (specs_cons rWide_ok specs_nil)
  refine rstepXS.good (fn := Try.f93) hT hP Try.func93 (by kernel_rfl) rfl fun (s : Stp) hq => ?_
  obtain ⟨sd, st, sf, sn⟩ := s
  have hx : sd < 0 ∨ sd > 24 := hq _ rfl
  clear hq
  repeat' first
    | (exfalso; rename_i g h; exact do_in hx g h)
    | (refine Go.mk ?_; conv => whnf)
    | refine Need.go ?_ ?_
    | refine NilG.go (fun _ => ?_) (fun _ => ?_)
    | refine Br.dec (fun _ => ?_) (fun _ => ?_)
    | refine Br.go (fun _ => ?_) (fun _ => ?_)
    | refine draw_go hT hP mixed ?_
    | refine round_go hT hP ?_
  all_goals clear hT hP
  all_goals (refine .mk [] [] _ rfl rfl rfl rfl rfl rfl (imm_int ?_))
  all_goals (show 8 = stpE (sd, st, sf, sn); unfold stpE)
  all_goals (rw [if_pos]; show sd < 0 ∨ sd ≥ 25; omega)

end Go.Proofs.Ytanaaecfghmmaaa

/- Steps of a cycle: what the reference says. -/
namespace Go.Proofs.Ytanaaecfghmmaaa
open Go.Fw
set_option linter.unusedVariables false
set_option linter.unusedSimpArgs false
set_option linter.constructorNameAsVariable false
set_option maxRecDepth 100000

theorem doings (d : Int) : (d < 0 ∨ d > 24) ∨ d = 0 ∨ d = 1 ∨ d = 2 ∨ d = 3 ∨ d = 4 ∨ d = 5 ∨ d = 6 ∨ d = 7 ∨ d = 8 ∨ d = 9 ∨ d = 10 ∨ d = 11 ∨ d = 12 ∨ d = 13 ∨ d = 14 ∨ d = 15 ∨ d = 16 ∨ d = 17 ∨ d = 18 ∨ d = 19 ∨ d = 20 ∨ d = 21 ∨ d = 22 ∨ d = 23 ∨ d = 24 := by omega
theorem rStep_ok : GoodF Try.prog 93 tstepS.spec := by
  refine GoodF.sel rStepX_ok fun (s, _) hp => ?_
  obtain ⟨sd, st, sf, sn⟩ := s
  clear hp
  show ∃ o1 : Args [gStep] → Option Prop × AV × List Blk, _
  rcases doings sd with hx | rfl | rfl | rfl | rfl | rfl | rfl | rfl | rfl | rfl | rfl | rfl | rfl | rfl | rfl | rfl | rfl | rfl | rfl | rfl | rfl | rfl | rfl | rfl | rfl | rfl
  · exact ⟨_, rStepX_ok, fun q hq => by cases hq; exact hx, .refl⟩
  · exact ⟨_, rStep0_ok, fun q hq => by cases hq; rfl, .refl⟩
  · exact ⟨_, rStep1_ok, fun q hq => by cases hq; rfl, .refl⟩
  · exact ⟨_, rStep2_ok, fun q hq => by cases hq; rfl, .refl⟩
  · exact ⟨_, rStep3_ok, fun q hq => by cases hq; rfl, .refl⟩
  · exact ⟨_, rStep4_ok, fun q hq => by cases hq; rfl, .refl⟩
  · exact ⟨_, rStep5_ok, fun q hq => by cases hq; rfl, .refl⟩
  · exact ⟨_, rStep6_ok, fun q hq => by cases hq; rfl, .refl⟩
  · exact ⟨_, rStep7_ok, fun q hq => by cases hq; rfl, .refl⟩
  · exact ⟨_, rStep8_ok, fun q hq => by cases hq; rfl, .refl⟩
  · exact ⟨_, rStep9_ok, fun q hq => by cases hq; rfl, .refl⟩
  · exact ⟨_, rStep10_ok, fun q hq => by cases hq; rfl, .refl⟩
  · exact ⟨_, rStep11_ok, fun q hq => by cases hq; rfl, .refl⟩
  · exact ⟨_, rStep12_ok, fun q hq => by cases hq; rfl, .refl⟩
  · exact ⟨_, rStep13_ok, fun q hq => by cases hq; rfl, .refl⟩
  · exact ⟨_, rStep14_ok, fun q hq => by cases hq; rfl, .refl⟩
  · exact ⟨_, rStep15_ok, fun q hq => by cases hq; rfl, .refl⟩
  · exact ⟨_, rStep16_ok, fun q hq => by cases hq; rfl, .refl⟩
  · exact ⟨_, rStep17_ok, fun q hq => by cases hq; rfl, .refl⟩
  · exact ⟨_, rStep18_ok, fun q hq => by cases hq; rfl, .refl⟩
  · exact ⟨_, rStep19_ok, fun q hq => by cases hq; rfl, .refl⟩
  · exact ⟨_, rStep20_ok, fun q hq => by cases hq; rfl, .refl⟩
  · exact ⟨_, rStep21_ok, fun q hq => by cases hq; rfl, .refl⟩
  · exact ⟨_, rStep22_ok, fun q hq => by cases hq; rfl, .refl⟩
  · exact ⟨_, rStep23_ok, fun q hq => by cases hq; rfl, .refl⟩
  · exact ⟨_, rStep24_ok, fun q hq => by cases hq; rfl, .refl⟩

end Go.Proofs.Ytanaaecfghmmaaa

/- The chip that reads and writes disks: forming, a new one, reading. -/
namespace Go.Proofs.Ytanaaecfghmmaaa
open Go.Fw
set_option linter.unusedVariables false
set_option linter.unusedSimpArgs false
set_option maxRecDepth 100000

theorem over_take (M : List Int) {n : Nat} (h : n ≤ M.length) : over (List.replicate n 0) M 0 = M.take n := by
  rw [over_eq]
  simp [h]
def qF (M : List Int) : Nat := M.length / 256
def dM (M : List Int) : List Int := M.take (qF M * 256)
theorem qF_le (M : List Int) : qF M * 256 ≤ M.length := by unfold qF; omega
theorem dM_len (M : List Int) : (dM M).length = qF M * 256 := by
  unfold dM; rw [List.length_take]; have := qF_le M; omega
theorem qF_int (M : List Int) (h : M.length ≤ 140737488355328) : IntKind.i64.wrap (IntKind.i64.wrap (Int.tdiv (M.length : Int) 256) * 256) = ((qF M * 256 : Nat) : Int) := by
  rw [Int.tdiv_eq_ediv_of_nonneg (by omega), w64 (x := (M.length : Int) / 256) (by omega) (by omega), w64 (by omega) (by omega)]
  unfold qF; omega
def dN (N : List Int) (q : Nat) : List Int :=
  [if N.getD 0 0 % 256 > q then 0 else N.getD 0 0 % 256, N.getD 1 0 % 4, if N.getD 2 0 % 8 > 4 then 0 else N.getD 2 0 % 8, N.getD 3 0 % 4, N.getD 4 0 % 16, N.getD 5 0 % 64, N.getD 6 0 % 256, N.getD 7 0 % 2, N.getD 8 0 % 2, N.getD 9 0 % 2]
def dN0 (N : List Int) : List Int :=
  [N.getD 0 0 % 256, N.getD 1 0 % 4, N.getD 2 0 % 8, N.getD 3 0 % 4, N.getD 4 0 % 16, N.getD 5 0 % 64, N.getD 6 0 % 256, N.getD 7 0 % 2, N.getD 8 0 % 2, N.getD 9 0 % 2]
theorem tup_r2 {x y : Int} (h : x = y) : AV.tup [.agg [.own 0, .own 1], I1 x] = AV.tup [.agg [.own 0, .own 1], I1 y] := by rw [h]
theorem blk2_eq {l l' m m' : List Int} (h : l = l') (h2 : m = m') : [some (Blk.arr (.int .i64) l), some (Blk.arr (.int .u8) m)] = [some (Blk.arr (.int .i64) l'), some (Blk.arr (.int .u8) m')] := by rw [h, h2]

theorem over_get (N : List Int) : ∀ (l : List Int) (i k : Nat), k < l.length → (over l N i).getD k 0 = N.getD (i + k) (l.getD k 0)
  | d :: l, i, 0, _ => by simp [over]
  | d :: l, i, k + 1, h => by
    have := over_get N l (i + 1) k (by simpa using h)
    have e : i + 1 + k = i + (k + 1) := by omega
    rw [e] at this
    simpa [over] using this
theorem rep_get (n k : Nat) : (List.replicate n (0 : Int)).getD k 0 = 0 := by
  rw [List.getD_eq_getElem?_getD, List.getElem?_replicate]
  split <;> rfl
def dL (N : List Int) (x y : Int) : List Int := [x, N.getD 1 0 % 4, y, N.getD 3 0 % 4, N.getD 4 0 % 16, N.getD 5 0 % 64, N.getD 6 0 % 256, N.getD 7 0 % 2, N.getD 8 0 % 2, N.getD 9 0 % 2]
def bitsK (N C ms : List Int) (k : Nat) : List Int := formG N (ms.take k) 0 ++ C.drop k
theorem bitsK_len (N C ms : List Int) {k : Nat} (h : k ≤ ms.length) (hc : C.length = ms.length) : (bitsK N C ms k).length = ms.length := by
  simp [bitsK, formG_len]; omega
theorem bitsK_get (N C ms : List Int) {k : Nat} (h : k < ms.length) (hc : C.length = ms.length) : (bitsK N C ms k).getD k 0 = C.getD k 0 := by
  have hl : (formG N (ms.take k) 0).length = k := by rw [formG_len, List.length_take]; omega
  unfold bitsK
  rw [List.getD_eq_getElem?_getD, List.getElem?_append_right (by omega), hl, Nat.sub_self, List.getElem?_drop, List.getD_eq_getElem?_getD]
  rfl
theorem bitsK_set (N C ms : List Int) {k : Nat} (h : k < ms.length) (hc : C.length = ms.length) : (bitsK N C ms k).set k (N.getD k 0 % ms.getD k 0) = bitsK N C ms (k + 1) := by
  have hl : (formG N (ms.take k) 0).length = k := by rw [formG_len, List.length_take]; omega
  unfold bitsK
  rw [List.set_append, if_neg (by omega), hl, Nat.sub_self, List.drop_eq_getElem_cons (by omega), List.set_cons_zero, formG_take N ms 0 k h]
  simp
def dMods : List Int := [256, 4, 8, 4, 16, 64, 256, 2, 2, 2]
def dBits : List Int := [8, 2, 3, 2, 4, 6, 8, 1, 1, 1]
theorem dBits_ok : ∀ k, k < 10 → (0 ≤ dBits.getD k 0 ∧ dBits.getD k 0 ≤ 62) ∧ (2 : Int) ^ (dBits.getD k 0).toNat = dMods.getD k 0 := by decide +kernel
theorem dN_if (N : List Int) (q : Nat) : dN N q = [if N.getD 0 0 % 256 > q then 0 else N.getD 0 0 % 256, N.getD 1 0 % 4, if N.getD 2 0 % 8 > 4 then 0 else N.getD 2 0 % 8, N.getD 3 0 % 4, N.getD 4 0 % 16, N.getD 5 0 % 64, N.getD 6 0 % 256, N.getD 7 0 % 2, N.getD 8 0 % 2, N.getD 9 0 % 2] := rfl

def dfitS : PSpec := ⟨[gD], fun (d, _) => (some (List.length d.2 ≤ 140737488355328), .tup [.c (.own 0), .c (.own 1)], [.arr (.int .i64) (dN d.1 (qF d.2)), .arr (.int .u8) (dM d.2)])⟩
def dnewS : PSpec := ⟨[gb], fun (b, _) => (some (List.length b ≤ 140737488355328), .agg [.own 0, .own 1], [.arr (.int .i64) [0, 0, 0, 0, 0, 0, 0, 0, 0, 0], .arr (.int .u8) (dM b)])⟩
def busyS : PSpec := ⟨[gl], fun (n, _) => (some (2 < List.length n), I (imin 1 (List.getD n 2 0)), [])⟩
/-- reading address 0 of a drive at rest without a disk -/
def dread0S : PSpec := ⟨[gD, gi], fun (d, a, _) => (some (a = 0 ∧ d.1 = [0, 0, 0, 0, 0, 0, 0, 0, 0, 0] ∧ d.2 = List.replicate 256 0), .tup [.agg [.own 0, .own 1], I1 8], [.arr (.int .i64) [0, 0, 0, 0, 0, 0, 0, 0, 0, 0], .arr (.int .u8) (List.replicate 256 0)])⟩
def drivesS : PSpec := ⟨[], fun _ => (none, .cell (bv true), [])⟩
theorem dmods_ok : ([256, 4, 8, 4, 16, 64, 256, 2, 2, 2] : List Int).length ≤ 1000 ∧ ∀ m ∈ ([256, 4, 8, 4, 16, 64, 256, 2, 2, 2] : List Int), 0 < m ∧ m ≤ 4611686018427387904 := by decide
def dformed0S : PSpec := ⟨[gC, gD], fun (c, d, _) => (some (c.2.1 = 8 ∧ List.length d.2 ≤ 140737488355328 ∧ qF d.2 = 0), .agg [.own 0, .imm (.slice none 0 0)], [.arr (.int .i64) (dN d.1 (qF d.2))])⟩
def dformed1S : PSpec := ⟨[gC, gD], fun (c, d, _) => (some (c.2.1 = 8 ∧ List.length d.2 ≤ 140737488355328 ∧ 0 < qF d.2), .agg [.own 0, .own 1], [.arr (.int .i64) (dN d.1 (qF d.2)), .arr (.int .u8) (dM d.2)])⟩
end Go.Proofs.Ytanaaecfghmmaaa

/- The chip that reads and writes disks: its first state. -/
namespace Go.Proofs.Ytanaaecfghmmaaa
open Go.Fw
set_option linter.unusedVariables false
set_option linter.unusedSimpArgs false
set_option maxRecDepth 100000

def dfresh0S : PSpec := ⟨[gC], fun (c, _) => (some (c.2.1 = 8 ∧ List.length c.2.2.2.2 ≤ 140737488355328 ∧ qF c.2.2.2.2 = 0), .agg [.own 0, .imm (.slice none 0 0)], [.arr (.int .i64) (dN [] (qF c.2.2.2.2))])⟩
def dfresh1S : PSpec := ⟨[gC], fun (c, _) => (some (c.2.1 = 8 ∧ List.length c.2.2.2.2 ≤ 140737488355328 ∧ 0 < qF c.2.2.2.2), .agg [.own 0, .own 1], [.arr (.int .i64) (dN [] (qF c.2.2.2.2)), .arr (.int .u8) (dM c.2.2.2.2)])⟩
theorem dN_nil (q : Nat) : dN [] q = [0, 0, 0, 0, 0, 0, 0, 0, 0, 0] := by
  rw [dN_if]
  have e : (([] : List Int).getD 0 0 % 256) = 0 := rfl
  rw [e, if_neg (by omega)]
  rfl

end Go.Proofs.Ytanaaecfghmmaaa

/- bakelaw1.DriveActs answers true, whatever it is given. -/
namespace Go.Proofs.Ytanaaecfghmmaaa
open Go.Fw
set_option linter.unusedVariables false
set_option linter.unusedSimpArgs false
set_option maxRecDepth 100000

abbrev e0 (N : List Int) (q : Nat) : Int := if N.getD 0 0 % 256 > q then 0 else N.getD 0 0 % 256
abbrev e1 (N : List Int) : Int := N.getD 1 0 % 4
abbrev e2 (N : List Int) : Int := if N.getD 2 0 % 8 > 4 then 0 else N.getD 2 0 % 8
abbrev e3 (N : List Int) : Int := N.getD 3 0 % 4
abbrev e4 (N : List Int) : Int := N.getD 4 0 % 16
abbrev e5 (N : List Int) : Int := N.getD 5 0 % 64
abbrev e6 (N : List Int) : Int := N.getD 6 0 % 256
abbrev e7 (N : List Int) : Int := N.getD 7 0 % 2
abbrev e8 (N : List Int) : Int := N.getD 8 0 % 2
abbrev e9 (N : List Int) : Int := N.getD 9 0 % 2
theorem dN_eq (N : List Int) (q : Nat) : dN N q = [e0 N q, e1 N, e2 N, e3 N, e4 N, e5 N, e6 N, e7 N, e8 N, e9 N] := rfl
theorem eR (N : List Int) (q : Nat) : (0 ≤ e0 N q ∧ e0 N q < 256) ∧ (0 ≤ e1 N ∧ e1 N < 4) ∧ (0 ≤ e2 N ∧ e2 N ≤ 4) ∧ (0 ≤ e3 N ∧ e3 N < 4) ∧ (0 ≤ e4 N ∧ e4 N < 16) ∧ (0 ≤ e5 N ∧ e5 N < 64) ∧ (0 ≤ e6 N ∧ e6 N < 256) ∧ (0 ≤ e7 N ∧ e7 N < 2) ∧ (0 ≤ e8 N ∧ e8 N < 2) ∧ (0 ≤ e9 N ∧ e9 N < 2) := by
  unfold e0 e1 e2 e3 e4 e5 e6 e7 e8 e9
  refine ⟨?_, ?_, ?_, ?_, ?_, ?_, ?_, ?_, ?_, ?_⟩
  · split <;> omega
  · omega
  · split <;> omega
  all_goals omega

theorem agg_ro {m m' : List Int} (h : m = m') : AV.agg [.own 0, .ro (.int .u8) m] = AV.agg [.own 0, .ro (.int .u8) m'] := by rw [h]
def dformedRS : PSpec := ⟨[gC, gD], fun (c, d, _) => (some (c.2.1 = 8 ∧ List.length d.2 ≤ 140737488355328), .agg [.own 0, .ro (.int .u8) (dM d.2)], [.arr (.int .i64) (dN d.1 (qF d.2))])⟩
def dformedR0S : PSpec := ⟨[gC, gD], fun (c, d, _) => (some (c.2.1 = 8 ∧ List.length d.2 ≤ 140737488355328 ∧ qF d.2 = 0), .agg [.own 0, .ro (.int .u8) []], [.arr (.int .i64) (dN d.1 (qF d.2))])⟩
def dformedR1S : PSpec := ⟨[gC, gD], fun (c, d, _) => (some (c.2.1 = 8 ∧ List.length d.2 ≤ 140737488355328 ∧ 0 < qF d.2), .agg [.own 0, .ro (.int .u8) (dM d.2)], [.arr (.int .i64) (dN d.1 (qF d.2))])⟩
theorem or_bits4 (b : Bool) (f o : Int) (z : Bool) (h7 : 0 ≤ f ∧ f < 2) (h8 : 0 ≤ o ∧ o < 2) : lor .i64 (lor .i64 (lor .i64 (bitI b) (shl .i64 f 1)) (shl .i64 o 2)) (8 * bitI z) = bitI b + 2 * f + 4 * o + 8 * bitI z := by
  have a1 : f = 0 ∨ f = 1 := by omega
  have a2 : o = 0 ∨ o = 1 := by omega
  rcases a1 with rfl | rfl <;> rcases a2 with rfl | rfl <;> cases b <;> cases z <;> decide +kernel
theorem bitI_in (b : Bool) : 0 ≤ bitI b ∧ bitI b ≤ 1 := by cases b <;> decide
theorem imin_bit {x : Int} (h : 0 ≤ x) : imin 1 x = bitI (decide (x > 0)) := by
  rw [imin_eq]
  by_cases hx : x > 0
  · rw [decide_eq_true hx]; show min 1 x = 1; omega
  · rw [decide_eq_false hx]; show min 1 x = 0; omega
def drF (N : List Int) (q : Nat) (a : Int) : Int := pickF [bitI (decide (e2 N > 0)) + 2 * e7 N + 4 * e8 N + 8 * bitI (decide (e0 N q = 0)), e6 N, e1 N, e9 N] a
def drN (N : List Int) (q : Nat) (a : Int) : List Int := [e0 N q, e1 N, e2 N, e3 N, e4 N, e5 N, e6 N, if a = 1 ∧ ¬ e2 N = 4 then 0 else e7 N, if a = 0 then 0 else e8 N, e9 N]
def dreadS : PSpec := ⟨[gD, gi], fun (d, a, _) => (some (List.length d.2 ≤ 140737488355328), .tup [.agg [.own 0, .own 1], I1 (drF d.1 (qF d.2) a)], [.arr (.int .i64) (drN d.1 (qF d.2) a), .arr (.int .u8) (dM d.2)])⟩
theorem tup_ro {x y : Int} {m : List Int} (h : x = y) : AV.tup [.agg [.own 0, .ro (.int .u8) m], I1 x] = AV.tup [.agg [.own 0, .ro (.int .u8) m], I1 y] := by rw [h]
def dloadedS : PSpec := ⟨[gC, gD, gi], fun (c, d, a, _) => (some (c.2.1 = 8 ∧ List.length d.2 ≤ 140737488355328), .tup [.agg [.own 0, .ro (.int .u8) (dM d.2)], I1 (drF d.1 (qF d.2) a)], [.arr (.int .i64) (drN d.1 (qF d.2) a)])⟩
def beginF (n : List Int) (k : Int) : List Int :=
  if n.getD 2 0 > 0 ∨ k % 16 = 0 ∨ k % 16 > 4 ∨ (k % 16 > 2 ∧ n.getD 0 0 = 0) then n
  else ((((n.set 2 (k % 16)).set 3 (k / 16 % 4)).set 4 0).set 5 30).set 7 (bitI (decide (k % 16 = 4)))
theorem set_twice (n : List Int) (i : Nat) (x y : Int) : (n.set i x).set i y = n.set i y := by simp
theorem byte_ops {k : Int} (h : 0 ≤ k ∧ k < 256) : land .i64 k 15 = k % 16 ∧ land .i64 (shr .i64 k 4) 3 = k / 16 % 4 := by
  have all : ∀ n, n < 256 → land .i64 ((n : Nat) : Int) 15 = ((n : Nat) : Int) % 16 ∧ land .i64 (shr .i64 ((n : Nat) : Int) 4) 3 = ((n : Nat) : Int) / 16 % 4 := by decide +kernel
  obtain ⟨n, rfl⟩ := Int.eq_ofNat_of_zero_le h.1
  exact all n (by omega)
theorem begin_no {n : List Int} {k : Int} (h : n.getD 2 0 > 0 ∨ k % 16 = 0 ∨ k % 16 > 4 ∨ (k % 16 > 2 ∧ n.getD 0 0 = 0)) : beginF n k = n := by rw [beginF, if_pos h]
theorem begin_yes {n : List Int} {k : Int} (h : ¬ (n.getD 2 0 > 0 ∨ k % 16 = 0 ∨ k % 16 > 4 ∨ (k % 16 > 2 ∧ n.getD 0 0 = 0))) : beginF n k = ((((n.set 2 (k % 16)).set 3 (k / 16 % 4)).set 4 0).set 5 30).set 7 (bitI (decide (k % 16 = 4))) := by rw [beginF, if_neg h]
theorem set6 (n : List Int) (k : Int) : (n.set 6 k).getD 2 0 = n.getD 2 0 := by simp [List.getD_eq_getElem?_getD]
def beginS : WSpec := ⟨List Int × Int, fun x => [.c (.own 0), I1 x.2], fun x => [.arr (.int .i64) x.1], fun a b => (match a, b with | [.c (.own 0), .c (.imm (.int .i64 k))], [.arr (.int .i64) n] => some (n, k) | _, _ => none),
  fun x => (some (x.1.length = 10 ∧ 0 ≤ x.1.getD 2 0 ∧ 0 ≤ x.2 ∧ x.2 < 256), .tup [], [some (.arr (.int .i64) (beginF x.1 x.2))], [])⟩
def commandF (n : List Int) (a k : Int) : List Int :=
  if a = 0 then beginF n k else if a = 1 then (if n.getD 2 0 = 4 then (n.set 6 k).set 7 0 else n.set 6 k) else if a = 3 then n.set 9 (k % 2) else n
def commandS : WSpec := ⟨List Int × Int × Int, fun x => [.c (.own 0), I1 x.2.1, I1 x.2.2], fun x => [.arr (.int .i64) x.1], fun a b => (match a, b with | [.c (.own 0), .c (.imm (.int .i64 a)), .c (.imm (.int .i64 k))], [.arr (.int .i64) n] => some (n, a, k) | _, _ => none),
  fun x => (some (x.1.length = 10 ∧ 0 ≤ x.1.getD 2 0 ∧ 0 ≤ x.2.2 ∧ x.2.2 < 256), .tup [], [some (.arr (.int .i64) (commandF x.1 x.2.1 x.2.2))], [])⟩
def dwN (N : List Int) (q : Nat) (a k : Int) : List Int := commandF (dN N q) a (k % 256)
def dwriteS : PSpec := ⟨[gD, gi, gi], fun (d, a, k, _) => (some (List.length d.2 ≤ 140737488355328), .agg [.own 0, .own 1], [.arr (.int .i64) (dwN d.1 (qF d.2) a k), .arr (.int .u8) (dM d.2)])⟩
def dstoredS : PSpec := ⟨[gC, gD, gi, gi], fun (c, d, a, k, _) => (some (c.2.1 = 8 ∧ List.length d.2 ≤ 140737488355328), .agg [.own 0, .ro (.int .u8) (dM d.2)], [.arr (.int .i64) (dwN d.1 (qF d.2) a k)])⟩
def dcN (N : List Int) (q : Nat) (k : Int) : List Int := if e2 N = 0 then [if k > 0 ∧ k ≤ q then k % 256 else 0, e1 N, e2 N, e3 N, e4 N, e5 N, e6 N, e7 N, e8 N, e9 N] else dN N q
def dchangeS : PSpec := ⟨[gD, gi], fun (d, k, _) => (some (List.length d.2 ≤ 140737488355328), .agg [.own 0, .own 1], [.arr (.int .i64) (dcN d.1 (qF d.2) k), .arr (.int .u8) (dM d.2)])⟩
def dgivenS : PSpec := ⟨[gC, gD, gi], fun (c, d, k, _) => (some (c.2.1 = 8 ∧ List.length d.2 ≤ 140737488355328), .agg [.own 0, .ro (.int .u8) (dM d.2)], [.arr (.int .i64) (dcN d.1 (qF d.2) k)])⟩
def dirqF (N : List Int) : Bool := decide (e9 N = 1) && decide (e7 N = 1)
def dirqS : PSpec := ⟨[gD], fun (d, _) => (some (List.length d.2 ≤ 140737488355328), .cell (bv (dirqF d.1)), [])⟩
def daskS : PSpec := ⟨[gC, gD], fun (c, d, _) => (some (c.2.1 = 8 ∧ List.length d.2 ≤ 140737488355328), .cell (bv (dirqF d.1)), [])⟩
def doutS : PSpec := ⟨[gD], fun (d, _) => (some (List.length d.2 ≤ 140737488355328), I (e1 d.1), [])⟩
def dshowsS : PSpec := ⟨[gC, gD], fun (c, d, _) => (some (c.2.1 = 8 ∧ List.length d.2 ≤ 140737488355328), I (e1 d.1), [])⟩
def dnextF (N : List Int) : Int := if e2 N = 0 then 100000 else max 1 (e5 N) - 1
def dnextS : PSpec := ⟨[gD], fun (d, _) => (some (List.length d.2 ≤ 140737488355328), I (dnextF d.1), [])⟩
def drestsS : PSpec := ⟨[gC, gD], fun (c, d, _) => (some (c.2.1 = 8 ∧ List.length d.2 ≤ 140737488355328), I (dnextF d.1), [])⟩
def daS : PSpec := ⟨[gD, gi, gi], fun (d, a, k, _) => (some (List.length d.2 ≤ 140737488355328), .cell (bv true), [])⟩
theorem dcN_len (N : List Int) (q : Nat) (k : Int) : (dcN N q k).length = 10 := by unfold dcN; split <;> rfl
theorem beginF_len (n : List Int) (k : Int) : (beginF n k).length = n.length := by unfold beginF; split <;> simp
theorem dwN_len (N : List Int) (q : Nat) (a k : Int) : (dwN N q a k).length = 10 := by
  unfold dwN commandF
  split
  · rw [beginF_len]; rfl
  · split
    · split <;> simp [dN]
    · split <;> simp [dN]
end Go.Proofs.Ytanaaecfghmmaaa

/- The functions of package bit that add, and bakelaw1.bits. -/
namespace Go.Proofs.Ytanaaecfghmmaaa
open Go.Fw
set_option linter.unusedVariables false
set_option linter.unusedSimpArgs false
set_option maxRecDepth 100000

def addF (a b c n : Int) : Int × Int :=
  let s := IntKind.i64.wrap (IntKind.i64.wrap (lowF a (widthF n) + lowF b (widthF n)) + land .i64 c 1)
  (lowF s (widthF n), shr .i64 s (widthF n))
def addS : PSpec := ⟨[gi, gi, gi, gi], fun (a, b, c, n, _) => (none, .tup [I1 (addF a b c n).1, I1 (addF a b c n).2], [])⟩
theorem add_ok : GoodF Try.prog 131 addS.spec := by
  have hT := tab_ok (fs := [(104, widthS.spec), (79, lowS.spec)]) tree_ok
  have hP : SpecsOk Try.prog (tab tree [(104, widthS.spec), (79, lowS.spec)]) := specs_cons width_ok (specs_cons low_ok specs_nil)
  refine addS.good (fn := Try.f131) hT hP Try.func131 (by kernel_rfl) rfl fun (a b c n : Int) _ => ?_
  repeat' first
    | (refine Go.mk ?_; conv => whnf)
    | refine Need.go ?_ ?_
    | refine Br.dec (fun _ => ?_) (fun _ => ?_)
    | refine Br.go (fun _ => ?_) (fun _ => ?_)
    | refine draw_go hT hP mixed ?_
  · show 0 ≤ widthF n
    simp only [widthF, imax_eq]; omega
  · exact .mk [] [] _ rfl rfl rfl rfl rfl rfl rfl

def bitsS : PSpec := ⟨[], fun _ => (none, .cell (bv true), [])⟩
theorem addF_0 : addF 200 100 0 8 = (44, 1) := by decide +kernel
end Go.Proofs.Ytanaaecfghmmaaa

/- Numbers as lists of digits: bakeref1's Digits2, Of2, limit. -/
namespace Go.Proofs.Ytanaaecfghmmaaa
open Go.Fw
set_option linter.unusedVariables false
set_option linter.unusedSimpArgs false
set_option maxRecDepth 100000

def limitF (a b c : Int) : Int := if a < b then b else if a > c then c else a
def limitS : PSpec := ⟨[gi, gi, gi], fun (a, b, c, _) => (none, I (limitF a b c), [])⟩
theorem limit_ok : GoodF Try.prog 96 limitS.spec := by
  have hT := tab_ok (fs := []) tree_ok
  have hP : SpecsOk Try.prog (tab tree []) := specs_nil
  refine limitS.good (fn := Try.f96) hT hP Try.func96 (by kernel_rfl) rfl fun (a b c : Int) _ => ?_
  repeat' first
    | (refine Go.mk ?_; conv => whnf)
    | refine Need.go ?_ ?_
    | refine Br.dec (fun _ => ?_) (fun _ => ?_)
    | refine Br.go (fun _ => ?_) (fun _ => ?_)
  · refine .mk [] [] _ rfl rfl rfl rfl rfl rfl (imm_int ?_)
    show _ = limitF a b c
    unfold limitF
    rw [if_pos (by assumption)]
  · refine .mk [] [] _ rfl rfl rfl rfl rfl rfl (imm_int ?_)
    show _ = limitF a b c
    unfold limitF
    rw [if_neg (by assumption), if_pos (by assumption)]
  · refine .mk [] [] _ rfl rfl rfl rfl rfl rfl (imm_int ?_)
    show _ = limitF a b c
    unfold limitF
    rw [if_neg (by assumption), if_neg (by assumption)]

def digitF (n : Int) (i : Int) : Int := IntKind.i64.wrap (land .u64 (shr .u64 (IntKind.u64.wrap n) i) 1)
def digF (n : Int) (k : Nat) : List Int := (List.range k).map fun (i : Nat) => digitF n i
def dig2F (a b : Int) : List Int := digF a (limitF b 0 62).toNat
def digS : PSpec := ⟨[gi, gi], fun (a, b, _) => (none, .cell (.own 0), [.arr (.int .i64) (dig2F a b)])⟩
theorem limitF_in (b : Int) : 0 ≤ limitF b 0 62 ∧ limitF b 0 62 ≤ 62 := by
  unfold limitF; (split <;> try split) <;> omega
theorem digF_succ (a i : Int) (h : 0 ≤ i) : digF a i.toNat ++ [digitF a i] = digF a (i + 1).toNat := by
  have e : (i + 1).toNat = i.toNat + 1 := by omega
  have e2 : ((i.toNat : Nat) : Int) = i := by omega
  rw [e]
  simp only [digF, List.range_succ, List.map_append, List.map_cons, List.map_nil, e2]
def of2F (l : List Int) : Int := l.foldr (fun d n => IntKind.i64.wrap (IntKind.i64.wrap (2 * n) + d)) 0
def of2S : PSpec := ⟨[gl], fun (l, _) => (some (List.length l ≤ 1000000000000), I (of2F l), [])⟩
end Go.Proofs.Ytanaaecfghmmaaa

/- Contracts of functions that only read and are handed a function, last of all. -/
namespace Go.Fw
set_option linter.unusedVariables false
set_option linter.unusedSimpArgs false

structure FSpec where
  gs : List Sig
  out : Args gs → Nat → Option Prop × AV × List Blk

def decF : (gs : List Sig) → List V1 → Option (Args gs × Nat)
  | [], l => match l with
    | [.c (.fn g [])] => some ((), g)
    | _ => none
  | g :: gs, l => match l with
    | x :: xs => match decV g x with
      | some d => (match decF gs xs with | some (r, f) => some ((d, r), f) | none => none)
      | none => none
    | [] => none
def canonF (f : Nat) : (gs : List Sig) → Args gs → List V1
  | [], _ => [.c (.fn f [])]
  | g :: gs, (a, r) => canonV g a :: canonF f gs r

def FSpec.spec (s : FSpec) : CSpec := { wr := false, run := fun args bl => match bl with
  | [] => match decF s.gs args with
    | some (xs, f) => some ((s.out xs f).1, (s.out xs f).2.1, [], (s.out xs f).2.2)
    | none => none
  | _ :: _ => none }

theorem decF_rel {E : Env} (hH : HeapOk E) (hn : ∀ b, E.H b = none) : ∀ {gs : List Sig} {xs : List V1} {ds : Args gs} {f : Nat} {vs : List Value}, decF gs xs = some (ds, f) → VsR E xs vs → VsR E (canonF f gs ds) vs
  | [], xs, ds, f, vs, h, hv => by
    unfold decF at h
    split at h
    · injection h with h
      injection h with h1 h2
      subst h2
      exact hv
    · cases h
  | g :: gs, [], ds, f, vs, h, hv => by simp [decF] at h
  | g :: gs, x :: xs, ds, f, vs, h, ⟨v, r, e, h1, h2⟩ => by
    unfold decF at h
    simp only at h
    split at h
    · rename_i d hd
      split at h
      · rename_i rs f' hr
        injection h with h
        injection h with e1 e2
        subst e1
        subst e2
        exact ⟨v, r, e, decV_rel hH hn hd h1, decF_rel hH hn hr h2⟩
      · cases h
    · cases h

theorem FSpec.good {P : Program} {T : Tab} {f : FuncId} {fn : Func} (hT : TabOk P T) (hP : SpecsOk P T) (hf : P.funcs[f]? = some fn) (hn : (fn.name == "runtime.NumGoroutine") = false) (s : FSpec) (hb : fn.body.isSome = true)
    (h : AllArgs s.gs fun xs => ∀ g : Nat, (∀ q, (s.out xs g).1 = some q → q) → Go (startR P T fn (canonF g s.gs xs) [] (s.out xs g).2.1 [] (s.out xs g).2.2)) : GoodF P f s.spec := by
  refine ⟨?_, fn, hf, hn, hb⟩
  obtain ⟨c, hc⟩ := Option.isSome_iff_exists.1 hb
  refine fn_sound hT hf hc _ fun args bl p r upd fresh hrun hp => ?_
  unfold FSpec.spec at hrun
  simp only at hrun
  split at hrun
  · split at hrun
    · rename_i xs g hxs
      simp only [Option.some.injEq, Prod.mk.injEq] at hrun
      obtain ⟨rfl, rfl, rfl, rfl⟩ := hrun
      refine ⟨_, fun E vs hok hH hv => decF_rel hok (fun b => by rw [hH]; simp) hxs hv, ?_⟩
      have := (h.out xs g hp).out
      rw [startR_eq] at this
      unfold startC at this
      rw [hc] at this
      simp only [fV1s_eq, fBlks_eq, fSt_eq] at this
      exact ex_sound hT hP c this
    · cases hrun
  · cases hrun

/-- a nil slice in a variable becomes one of one's own -/
theorem Le.nilH {m : Nat} {st : St} (b : Nat) (t : Ty) (cs ds : List Cell) (h : st.heap[b]? = some (some (.var cs))) (hn : noCs st.heap.length cs = some ds) (hsz : ds.map Cell.size = cs.map Cell.size) :
    Le m st { tmps := st.tmps, heap := setAt (setAt st.heap st.heap.length (some (.arr t []))) b (some (.var ds)) } := by
  intro E0 E a hm hs hf
  have hlt : b < st.heap.length := (List.getElem?_eq_some_iff.1 h).1
  have hU : ¬ E.U st.heap.length := fun hu => by have := hs.U _ hu; omega
  have hstep : Step E { pre := none, val := .dead, add := [.arr t []], set := [] } st.heap.length (nilE E [] st.heap.length t) := Step.nil (us := []) hs.ok rfl rfl hU
  have hs1 := hs.step (dst := none) (v := undef) hstep trivial
  have hf1 := hf.step hstep
  have hlook : st.look b = some (.var cs) := by unfold St.look; rw [h]
  have hb : E.H b = some (.var cs) := (hs.H b).trans hlook
  have hne : b ≠ st.heap.length := by omega
  obtain ⟨hu, ⟨g, ca, el, hr, hw, hir⟩, hS⟩ := hs.ok.blk b _ hb
  have hb1 : (nilE E [] st.heap.length t).H b = some (.var cs) := by simp [nilE, hne, hb]
  have hr1 : (nilE E [] st.heap.length t).ρ b = some g := by simp [nilE, hne, hr]
  have hsh : shape (.var ds) = shape (.var cs) := by simp only [shape]; rw [hsz]
  have hwr : Writes (nilE E [] st.heap.length t) g ca ca el (nilE E [] st.heap.length t).w := ⟨hw, hw, rfl, fun _ _ => rfl, rfl, rfl, rfl, rfl⟩
  have hir1 := noCs_rel hstep.ext hn hir
  have hheap : (st.act st.heap.length { pre := none, val := .dead, add := [.arr t []], set := [] }).heap = setAt st.heap st.heap.length (some (.arr t [])) := rfl
  have hlen : b < (setAt st.heap st.heap.length (some (.arr t []))).length := by
    have := (len_addAll [.arr t []] st.heap st.heap.length).1
    exact Nat.lt_of_lt_of_le hlt this
  refine ⟨setE (nilE E [] st.heap.length t) b (.var ds) (nilE E [] st.heap.length t).w, rfl, ⟨hs1.defers, hs1.len, fun j y hy => ?_, setE_ok hs1.ok hb1 hr1 hsh hwr hir1, fun x => ?_, fun x hx => ?_⟩, ?_⟩
  · obtain ⟨v, h1, h2⟩ := hs1.tmp j y hy
    exact ⟨v, h1, h2.ext (setE_ext hs1.ok hb1 hr1 hsh hwr)⟩
  · show (if x = b then some (.var ds) else (nilE E [] st.heap.length t).H x) = St.look { tmps := st.tmps, heap := setAt (setAt st.heap st.heap.length (some (.arr t []))) b (some (.var ds)) } x
    unfold St.look
    rw [setAt_same (α := Nat) _ _ _ _ hlen]
    split
    · rfl
    · exact hs1.H x
  · have := hs1.U x hx
    show x < (setAt (setAt st.heap st.heap.length (some (.arr t []))) b (some (.var ds))).length
    rw [setAt_len _ _ _ hlen]
    exact this
  · exact ⟨setE_fr hs1.ok hb1 hr1 hwr hf1.fr, hf1.ext.trans (setE_ext hs1.ok hb1 hr1 hsh hwr)⟩

/-- a contract out of what a call gives that leaves the world as it was -/
theorem PSpec.of_calls {P : Program} {f : FuncId} {fn : Func} (hf : P.funcs[f]? = some fn) (hn : (fn.name == "runtime.NumGoroutine") = false) (hb : fn.body.isSome = true) (s : PSpec) (hfr : ∀ xs, (s.out xs).2.2 = [])
    (h : ∀ (E : Env) (xs : Args s.gs) (vs : Array Value), VsR E (canonArgs s.gs xs) vs.toList → (∀ q, (s.out xs).1 = some q → q) → Calls P f vs E.w fun e w' => (∃ v, e = .returned v ∧ AVR E (s.out xs).2.1 v) ∧ w' = E.w) : GoodF P f s.spec := by
  refine ⟨?_, fn, hf, hn, hb⟩
  intro E0 vs args bl p r upd fresh hH hU hok hvs hrun hp
  unfold PSpec.spec at hrun
  simp only at hrun
  split at hrun
  · split at hrun
    · rename_i xs hxs
      simp only [Option.some.injEq, Prod.mk.injEq] at hrun
      obtain ⟨rfl, rfl, rfl, rfl⟩ := hrun
      have hv := decArgs_rel hok (fun b => by rw [hH]; simp) hxs hvs
      refine (h E0 xs vs hv hp).mono ?_
      rintro e w' ⟨⟨v, rfl, hr⟩, rfl⟩
      refine ⟨v, E0, rfl, rfl, hr, hok, fun b => ?_, fun b => ?_, Ext.refl E0, frameOf_ok⟩
      · rw [hH, hfr]; simp
      · rw [hU, hfr]; simp
    · cases hrun
  · cases hrun

end Go.Fw

/- The lines of a port, bit by bit and at once. -/
namespace Go.Proofs.Ytanaaecfghmmaaa
open Go.Fw
set_option linter.unusedVariables false
set_option linter.unusedSimpArgs false

theorem land1q (c : Int) : land .i64 c 1 = ((u64 c % 2 : Nat) : Int) := by
  have e : u64 c &&& u64 1 = u64 c % 2 := by
    have : u64 1 = 2 ^ 1 - 1 := by decide
    rw [this, Nat.and_two_pow_sub_one_eq_mod]
  rw [land_nat _ _ (by rw [e]; omega), e]
theorem bit_of {a k : Nat} (h : a < 2 ^ 63) (hk : k ≤ 62) : land .i64 (shr .i64 (a : Int) (k : Int)) 1 = ((a / 2 ^ k % 2 : Nat) : Int) := by
  have : a / 2 ^ k < 2 ^ 63 := Nat.lt_of_le_of_lt (Nat.div_le_self _ _) h
  rw [shr_eq (by omega), land1q, u64_nat (by omega)]
def bothF (n : List Int) (m : Int) : Nat → Int
  | 0 => 0
  | k + 1 => IntKind.i64.wrap (bothF n m k + shl .i64 (land .i64 (shr .i64 (n.getD (land .i64 (shr .i64 m k) 1).toNat 0) k) 1) k)
theorem both_nat (x l m : Nat) (hx : x < 256) (hl : l < 256) (hm : m < 256) : ∀ k, k ≤ 8 → bothF [(x : Int), l, m] m k = ((((l &&& m) ||| (x ^^^ (x &&& m))) % 2 ^ k : Nat) : Int)
  | 0, _ => by simp [bothF, Nat.mod_one]
  | k + 1, h => by
    have ih := both_nat x l m hx hl hm k (by omega)
    generalize hX : (l &&& m) ||| (x ^^^ (x &&& m)) = X at ih ⊢
    have hsel : ∃ s : Nat, ([(x : Int), l, m].getD (land .i64 (shr .i64 (m : Int) k) 1).toNat 0) = (s : Int) ∧ s < 256 ∧ s / 2 ^ k % 2 = X / 2 ^ k % 2 := by
      have e1 : X.testBit k = ((l.testBit k && m.testBit k) || (x.testBit k && !m.testBit k)) := by
        rw [← hX, Nat.testBit_or, Nat.testBit_and, xor_and_testBit]
      rw [bit_of (by omega) (by omega)]
      rcases Nat.mod_two_eq_zero_or_one (m / 2 ^ k) with h0 | h0
      · refine ⟨x, by rw [h0]; rfl, hx, ?_⟩
        rw [← Nat.toNat_testBit, ← Nat.toNat_testBit, e1]
        have : m.testBit k = false := by rw [Nat.testBit_eq_decide_div_mod_eq, h0]; rfl
        rw [this]; simp
      · refine ⟨l, by rw [h0]; rfl, hl, ?_⟩
        rw [← Nat.toNat_testBit, ← Nat.toNat_testBit, e1]
        have : m.testBit k = true := by rw [Nat.testBit_eq_decide_div_mod_eq, h0]; rfl
        rw [this]; simp
    obtain ⟨s, hs, hs2, hs3⟩ := hsel
    have hp : 2 ^ (k + 1) ≤ 2 ^ 8 := pow_le h
    have hp0 : 0 < 2 ^ k := Nat.pow_pos (by omega)
    have hb : X / 2 ^ k % 2 ≤ 1 := by omega
    have hmul : X / 2 ^ k % 2 * 2 ^ k ≤ 1 * 2 ^ k := Nat.mul_le_mul_right _ hb
    have hr : X % 2 ^ k < 2 ^ k := Nat.mod_lt _ hp0
    rw [Nat.pow_succ] at hp
    rw [bothF, hs, bit_of (by omega) (by omega), hs3, ih, shl_eq (by omega) (by omega), w64 (by omega) (by omega), Nat.pow_succ, Nat.mod_mul, Nat.mul_comm (2 ^ k)]
    omega
theorem both_eq (x l m : Int) (hx : 0 ≤ x ∧ x < 256) (hl : 0 ≤ l ∧ l < 256) (hm : 0 ≤ m ∧ m < 256) : bothF [x, l, m] m 8 = lor .i64 (land .i64 l m) (landNot .i64 x m) := by
  obtain ⟨x, rfl⟩ := Int.eq_ofNat_of_zero_le hx.1
  obtain ⟨l, rfl⟩ := Int.eq_ofNat_of_zero_le hl.1
  obtain ⟨m, rfl⟩ := Int.eq_ofNat_of_zero_le hm.1
  have h1 : l &&& m < 2 ^ 8 := Nat.and_lt_two_pow _ (by omega)
  have h2 : x ^^^ (x &&& m) < 2 ^ 8 := Nat.xor_lt_two_pow (by omega) (Nat.and_lt_two_pow _ (by omega))
  have h3 : (l &&& m) ||| (x ^^^ (x &&& m)) < 2 ^ 8 := Nat.or_lt_two_pow h1 h2
  rw [both_nat x l m (by omega) (by omega) (by omega) 8 (by omega), Nat.mod_eq_of_lt h3]
  have e1 : land .i64 (l : Int) m = ((l &&& m : Nat) : Int) := by
    rw [land_nat _ _ (by rw [u64_nat (by omega), u64_nat (by omega)]; omega), u64_nat (by omega), u64_nat (by omega)]
  have e2 : landNot .i64 (x : Int) m = ((x ^^^ (x &&& m) : Nat) : Int) := by
    rw [landNot_nat _ _ (by rw [u64_nat (by omega)]; omega), u64_nat (by omega), u64_nat (by omega)]
  rw [e1, e2, lor_nat _ _ (by rw [u64_nat (by omega), u64_nat (by omega)]; omega), u64_nat (by omega), u64_nat (by omega)]

end Go.Proofs.Ytanaaecfghmmaaa

/- The chip with eight lines: what the program's functions and the reference's give. -/
namespace Go.Proofs.Ytanaaecfghmmaaa
open Go.Fw
set_option linter.unusedVariables false
set_option linter.unusedSimpArgs false
set_option maxRecDepth 100000

def portC : Cv := (ByteArray.empty, 4, 0, 0, [])
def portN (N : List Int) : List Int := [N.getD 0 0 % 256, N.getD 1 0 % 256, N.getD 2 0 % 256]

def pformedS : PSpec := ⟨[gC, gD], fun (c, d, _) => (some (c.2.1 = 4), devR, [.arr (.int .i64) (portN d.1)])⟩
def pfreshS : PSpec := ⟨[gC], fun (c, _) => (some (c.2.1 = 4), devR, [.arr (.int .i64) [255, 0, 0]])⟩
def pnewS : PSpec := ⟨[], fun _ => (none, devR, [.arr (.int .i64) [255, 0, 0]])⟩
def pfit0S : PSpec := ⟨[gD], fun (d, _) => (none, .cell (.own 0), [.arr (.int .i64) (portN d.1)])⟩
def poutS : PSpec := ⟨[gD], fun (d, _) => (none, I (land .i64 (d.1.getD 1 0 % 256) (d.1.getD 2 0 % 256)), [])⟩
def pshowsS : PSpec := ⟨[gC, gD], fun (c, d, _) => (some (c.2.1 = 4), I (land .i64 (d.1.getD 1 0 % 256) (d.1.getD 2 0 % 256)), [])⟩
def pinN (N : List Int) (k : Int) : List Int := [k % 256, N.getD 1 0 % 256, N.getD 2 0 % 256]
def pinS : PSpec := ⟨[gD, gi], fun (d, k, _) => (none, devR, [.arr (.int .i64) (pinN d.1 k)])⟩
def pgivenS : PSpec := ⟨[gC, gD, gi], fun (c, d, k, _) => (some (c.2.1 = 4), devR, [.arr (.int .i64) (pinN d.1 k)])⟩
def pwN (N : List Int) (at_ k : Int) : List Int := [N.getD 0 0 % 256, if at_ = 0 then k % 256 else N.getD 1 0 % 256, if at_ = 1 then k % 256 else N.getD 2 0 % 256]
def pwriteS : PSpec := ⟨[gD, gi, gi], fun (d, at_, k, _) => (none, devR, [.arr (.int .i64) (pwN d.1 at_ k)])⟩
def pstoredS : PSpec := ⟨[gC, gD, gi, gi], fun (c, d, at_, k, _) => (some (c.2.1 = 4), devR, [.arr (.int .i64) (pwN d.1 at_ k)])⟩
def bothV (N : List Int) : Int := lor .i64 (land .i64 (N.getD 1 0 % 256) (N.getD 2 0 % 256)) (landNot .i64 (N.getD 0 0 % 256) (N.getD 2 0 % 256))
def preadF (N : List Int) (a : Int) : Int := pickF [bothV N, N.getD 2 0 % 256] a
def preadS : PSpec := ⟨[gD, gi], fun (d, a, _) => (none, .tup [.agg [.own 0, .imm (.slice none 0 0)], I1 (preadF d.1 a)], [.arr (.int .i64) (portN d.1)])⟩
theorem sel_in (N : List Int) (k : Nat) (hk : k ≤ 62) : 0 ≤ land .i64 (shr .i64 (N.getD 2 0 % 256) k) 1 ∧ land .i64 (shr .i64 (N.getD 2 0 % 256) k) 1 < 3 := by
  obtain ⟨m, hm⟩ := Int.eq_ofNat_of_zero_le (show 0 ≤ N.getD 2 0 % 256 by omega)
  rw [hm, bit_of (by omega) hk]
  omega
def ploadedS : PSpec := ⟨[gC, gD, gi], fun (c, d, a, _) => (some (c.2.1 = 4), .tup [.agg [.own 0, .imm (.slice none 0 0)], I1 (preadF d.1 a)], [.arr (.int .i64) (portN d.1)])⟩
end Go.Proofs.Ytanaaecfghmmaaa

/- The timer as plain functions: a cycle, many cycles. -/
namespace Go.Proofs.Ytanaaecfghmmaaa
open Go.Fw
set_option linter.unusedVariables false
set_option linter.unusedSimpArgs false

def timN (N : List Int) : List Int := [N.getD 0 0 % 65536, N.getD 1 0 % 65536, N.getD 2 0 % 8, N.getD 3 0 % 2]
def tickT : List Int → List Int
  | [a, b, c, f] => if c % 2 = 0 then [a, b, c, f] else if a > 0 then [a - 1, b, c, f] else if c / 2 % 2 = 1 then [b, b, c, 1] else [a, b, c - 1, 1]
  | l => l
def iterT : Nat → List Int → List Int
  | 0, l => l
  | n + 1, l => iterT n (tickT l)
theorem iterT_add : ∀ (m n : Nat) (l : List Int), iterT (m + n) l = iterT n (iterT m l)
  | 0, n, l => by rw [Nat.zero_add]; rfl
  | m + 1, n, l => by
    have e : m + 1 + n = (m + n) + 1 := by omega
    rw [e]
    exact iterT_add m n (tickT l)
theorem it_off {a b c f : Int} (h : c % 2 = 0) : ∀ n, iterT n [a, b, c, f] = [a, b, c, f]
  | 0 => rfl
  | n + 1 => by
    rw [iterT, tickT, if_pos h]
    exact it_off h n
theorem it_run {b c f : Int} (h : ¬ c % 2 = 0) : ∀ (n : Nat) (a : Int), (n : Int) ≤ a → iterT n [a, b, c, f] = [a - n, b, c, f]
  | 0, a, _ => by rw [iterT]; simp
  | n + 1, a, ha => by
    rw [iterT, tickT, if_neg h, if_pos (by omega), it_run h n (a - 1) (by omega)]
    have : a - 1 - (n : Int) = a - ((n + 1 : Nat) : Int) := by omega
    rw [this]
theorem it_next {b c f a : Int} (h : ¬ c % 2 = 0) (ha : 0 ≤ a) (n : Nat) (hn : a < n) : iterT n [a, b, c, f] = iterT (n - a.toNat - 1) (tickT [0, b, c, f]) := by
  have e : n = a.toNat + ((n - a.toNat - 1) + 1) := by omega
  rw [e, iterT_add, it_run h a.toNat a (by omega)]
  have e2 : a - (a.toNat : Int) = 0 := by omega
  have e3 : a.toNat + (n - a.toNat - 1 + 1) - a.toNat - 1 = n - a.toNat - 1 := by omega
  rw [e2, e3]
  rfl
theorem it_rep {b c : Int} (h : ¬ c % 2 = 0) (h2 : c / 2 % 2 = 1) (hb : 0 ≤ b) : ∀ (m n : Nat), n ≤ m → iterT n [b, b, c, 1] = [b - (n : Int) % (b + 1), b, c, 1] := by
  intro m
  induction m with
  | zero =>
    intro n hn
    have : n = 0 := by omega
    subst this
    rw [iterT]; simp
  | succ m ih =>
    intro n hn
    by_cases hle : (n : Int) ≤ b
    · rw [it_run h n b hle, Int.emod_eq_of_lt (by omega) (by omega)]
    · rw [it_next h hb n (by omega), tickT, if_neg h, if_neg (by omega), if_pos h2, ih _ (by omega)]
      have e : ((n - b.toNat - 1 : Nat) : Int) = (n : Int) - (b + 1) := by omega
      rw [e, Int.sub_emod_right]
theorem it_again {a b c f : Int} (h : ¬ c % 2 = 0) (h2 : c / 2 % 2 = 1) (ha : 0 ≤ a) (hb : 0 ≤ b) (n : Nat) (hn : a < n) : iterT n [a, b, c, f] = [b - ((n : Int) - a - 1) % (b + 1), b, c, 1] := by
  rw [it_next h ha n hn, tickT, if_neg h, if_neg (by omega), if_pos h2, it_rep h h2 hb _ _ (Nat.le_refl _)]
  have e : ((n - a.toNat - 1 : Nat) : Int) = (n : Int) - a - 1 := by omega
  rw [e]
theorem it_once {a b c f : Int} (h : ¬ c % 2 = 0) (h2 : ¬ c / 2 % 2 = 1) (ha : 0 ≤ a) (n : Nat) (hn : a < n) : iterT n [a, b, c, f] = [0, b, c - 1, 1] := by
  rw [it_next h ha n hn, tickT, if_neg h, if_neg (by omega), if_neg h2]
  exact it_off (by omega) _
/-- the bits of the control register -/
theorem ctl {c : Int} (h0 : 0 ≤ c) (h1 : c < 8) : ((land .i64 c 1 == 0) = decide (c % 2 = 0)) ∧ ((land .i64 c 2 != 0) = decide (c / 2 % 2 = 1)) ∧ ((land .i64 c 4 != 0) = decide (c ≥ 4)) ∧ (¬ c % 2 = 0 → landNot .i64 c 1 = c - 1) := by
  have : c = 0 ∨ c = 1 ∨ c = 2 ∨ c = 3 ∨ c = 4 ∨ c = 5 ∨ c = 6 ∨ c = 7 := by omega
  rcases this with rfl | rfl | rfl | rfl | rfl | rfl | rfl | rfl <;> decide +kernel
theorem timN_idem {a b c f : Int} (ha : 0 ≤ a ∧ a < 65536) (hb : 0 ≤ b ∧ b < 65536) (hc : 0 ≤ c ∧ c < 8) (hf : 0 ≤ f ∧ f < 2) : timN [a, b, c, f] = [a, b, c, f] := by
  show [a % 65536, b % 65536, c % 8, f % 2] = _
  rw [Int.emod_eq_of_lt ha.1 ha.2, Int.emod_eq_of_lt hb.1 hb.2, Int.emod_eq_of_lt hc.1 hc.2, Int.emod_eq_of_lt hf.1 hf.2]
theorem tick_form4 {a b c f : Int} (ha : 0 ≤ a ∧ a < 65536) (hb : 0 ≤ b ∧ b < 65536) (hc : 0 ≤ c ∧ c < 8) (hf : 0 ≤ f ∧ f < 2) : timN (tickT [a, b, c, f]) = tickT [a, b, c, f] := by
  by_cases h1 : c % 2 = 0
  · have e : tickT [a, b, c, f] = [a, b, c, f] := if_pos h1
    rw [e]; exact timN_idem ha hb hc hf
  · by_cases h2 : a > 0
    · have e : tickT [a, b, c, f] = [a - 1, b, c, f] := by rw [tickT, if_neg h1, if_pos h2]
      rw [e]; exact timN_idem (by omega) hb hc hf
    · by_cases h3 : c / 2 % 2 = 1
      · have e : tickT [a, b, c, f] = [b, b, c, 1] := by rw [tickT, if_neg h1, if_neg h2, if_pos h3]
        rw [e]; exact timN_idem hb hb hc (by omega)
      · have e : tickT [a, b, c, f] = [a, b, c - 1, 1] := by rw [tickT, if_neg h1, if_neg h2, if_neg h3]
        rw [e]; exact timN_idem ha hb (by omega) (by omega)
theorem tick_form {l : List Int} (h : timN l = l) : timN (tickT l) = tickT l := by
  have := tick_form4 (a := l.getD 0 0 % 65536) (b := l.getD 1 0 % 65536) (c := l.getD 2 0 % 8) (f := l.getD 3 0 % 2) (by omega) (by omega) (by omega) (by omega)
  have e : [l.getD 0 0 % 65536, l.getD 1 0 % 65536, l.getD 2 0 % 8, l.getD 3 0 % 2] = l := h
  rw [e] at this
  exact this
theorem timN_form (N : List Int) : timN (timN N) = timN N := timN_idem (by omega) (by omega) (by omega) (by omega)

end Go.Proofs.Ytanaaecfghmmaaa

/- The chip that counts down: forming, cycles. -/
namespace Go.Proofs.Ytanaaecfghmmaaa
open Go.Fw
set_option linter.unusedVariables false
set_option linter.unusedSimpArgs false
set_option maxRecDepth 100000

theorem blk_eq {l l' : List Int} (h : l = l') : [some (Blk.arr (.int .i64) l)] = [some (Blk.arr (.int .i64) l')] := by rw [h]
abbrev tA (N : List Int) : Int := N.getD 0 0 % 65536
abbrev tB (N : List Int) : Int := N.getD 1 0 % 65536
abbrev tC (N : List Int) : Int := N.getD 2 0 % 8
abbrev tF (N : List Int) : Int := N.getD 3 0 % 2
theorem tR (N : List Int) : (0 ≤ tA N ∧ tA N < 65536) ∧ (0 ≤ tB N ∧ tB N < 65536) ∧ (0 ≤ tC N ∧ tC N < 8) ∧ (0 ≤ tF N ∧ tF N < 2) := by
  unfold tA tB tC tF; omega
theorem timN_eq (N : List Int) : timN N = [tA N, tB N, tC N, tF N] := rfl
def timC : Cv := (ByteArray.empty, 3, 0, 0, [])

def tformedS : PSpec := ⟨[gC, gD], fun (c, d, _) => (some (c.2.1 = 3), devR, [.arr (.int .i64) (timN d.1)])⟩
def tfitS : PSpec := ⟨[gD], fun (d, _) => (none, .cell (.own 0), [.arr (.int .i64) (timN d.1)])⟩
def tnewS : PSpec := ⟨[], fun _ => (none, devR, [.arr (.int .i64) [0, 0, 0, 0]])⟩
def tickedS : PSpec := ⟨[gC, gD], fun (c, d, _) => (some (c.2.1 = 3), devR, [.arr (.int .i64) (tickT (timN d.1))])⟩
def tskipS : PSpec := ⟨[gD, gi], fun (d, k, _) => (some (k ≤ 4611686018427387904), devR, [.arr (.int .i64) (iterT k.toNat (timN d.1))])⟩
def ttickS : PSpec := ⟨[gD], fun (d, _) => (none, devR, [.arr (.int .i64) (tickT (timN d.1))])⟩
end Go.Proofs.Ytanaaecfghmmaaa

/- Fields of numbers, by division: plain arithmetic. -/
namespace Go.Proofs.Ytanaaecfghmmaaa
open Go.Fw
set_option linter.unusedVariables false
set_option linter.unusedSimpArgs false

theorem placeF_id {f z : Nat} (h : f + z ≤ 62) : placeF (f : Int) (z : Int) = ((f : Int), (z : Int)) := by
  simp only [placeF, widthF, imax_eq, imin_eq]
  have e1 : max 0 (min (f : Int) 62) = f := by omega
  rw [e1, w64 (x := 62 - (f : Int)) (by omega) (by omega)]
  have e2 : max 0 (min (z : Int) (62 - f)) = z := by omega
  rw [e2]
theorem u64_mod (v : Int) {k : Nat} (h : k ≤ 62) : ((u64 v % 2 ^ k : Nat) : Int) = v % 2 ^ k := by
  have := lowF_mod v k (by omega) (by omega)
  rw [lowF_eq, widthF_id (by omega) (by omega)] at this
  exact this
theorem fput_bits {N V f z : Nat} (hN : N < 2 ^ 62) (hV : V < 2 ^ z) (h : f + z ≤ 62) :
    (N ^^^ (N &&& (2 ^ z - 1) * 2 ^ f)) ||| V * 2 ^ f = 2 ^ f * (2 ^ z * (N / 2 ^ (f + z)) + V) + N % 2 ^ f := by
  apply Nat.eq_of_testBit_eq
  intro i
  rw [Nat.testBit_two_pow_mul_add _ (Nat.mod_lt _ (Nat.pow_pos (by omega))), Nat.testBit_or, xor_and_testBit, Nat.testBit_mul_two_pow, Nat.testBit_mul_two_pow, Nat.testBit_two_pow_sub_one]
  by_cases h1 : i < f
  · rw [if_pos h1, Nat.testBit_mod_two_pow]
    have e : decide (f ≤ i) = false := by simp; omega
    simp [e, h1]
  · rw [if_neg h1, Nat.testBit_two_pow_mul_add _ hV]
    have e : decide (f ≤ i) = true := by simp; omega
    by_cases h2 : i - f < z
    · simp [e, h2]
    · rw [if_neg h2, Nat.testBit_div_two_pow]
      have e3 : V.testBit (i - f) = false := Nat.testBit_lt_two_pow (Nat.lt_of_lt_of_le hV (pow_le (by omega)))
      have e4 : i - f - z + (f + z) = i := by omega
      have e5 : f + z + (i - f - z) = i := by omega
      simp [e, h2, e3, e4, e5]
theorem getF_nat {n f z : Nat} (hn : n < 2 ^ 62) (h : f + z ≤ 62) : getF (n : Int) (f : Int) (z : Int) = ((n / 2 ^ f % 2 ^ z : Nat) : Int) := by
  have hl : lowF (n : Int) 62 = ((u64 (n : Int) % 2 ^ 62 : Nat) : Int) := lowF_eq n 62
  rw [u64_nat (by omega), Nat.mod_eq_of_lt hn] at hl
  unfold getF
  rw [placeF_id h, hl]
  simp only
  rw [shr_eq (by omega), lowF_eq, widthF_id (by omega) (by omega), u64_nat (Nat.lt_of_le_of_lt (Nat.div_le_self _ _) (by omega))]
  simp
theorem putF_nat {n f z : Nat} (v : Int) (hn : n < 2 ^ 62) (h : f + z ≤ 62) : putF (n : Int) (f : Int) (z : Int) v = ((2 ^ f * (2 ^ z * (n / 2 ^ (f + z)) + u64 v % 2 ^ z) + n % 2 ^ f : Nat) : Int) := by
  have hz : 2 ^ f * 2 ^ z ≤ 2 ^ 62 := by rw [← Nat.pow_add]; exact pow_le h
  have hz0 : 0 < 2 ^ z := Nat.pow_pos (by omega)
  have hf0 : 0 < 2 ^ f := Nat.pow_pos (by omega)
  have hV : u64 v % 2 ^ z < 2 ^ z := Nat.mod_lt _ hz0
  have hl : lowF (n : Int) 62 = ((u64 (n : Int) % 2 ^ 62 : Nat) : Int) := lowF_eq n 62
  rw [u64_nat (by omega), Nat.mod_eq_of_lt hn] at hl
  have hv : lowF v z = ((u64 v % 2 ^ z : Nat) : Int) := by rw [lowF_eq, widthF_id (by omega) (by omega)]; simp
  have b1 : (2 ^ z - 1) * 2 ^ f < 2 ^ 63 := by
    have : (2 ^ z - 1) * 2 ^ f ≤ 2 ^ z * 2 ^ f := Nat.mul_le_mul_right _ (by omega)
    rw [Nat.mul_comm (2 ^ z)] at this
    omega
  have b2 : u64 v % 2 ^ z * 2 ^ f < 2 ^ 63 := by
    have : u64 v % 2 ^ z * 2 ^ f ≤ 2 ^ z * 2 ^ f := Nat.mul_le_mul_right _ (by omega)
    rw [Nat.mul_comm (2 ^ z)] at this
    omega
  have key := fput_bits hn hV h
  have b3 : 2 ^ f * (2 ^ z * (n / 2 ^ (f + z)) + u64 v % 2 ^ z) + n % 2 ^ f < 2 ^ 62 := by
    rw [← key]
    refine Nat.or_lt_two_pow (Nat.xor_lt_two_pow hn (Nat.lt_of_le_of_lt Nat.and_le_left hn)) ?_
    have : u64 v % 2 ^ z * 2 ^ f < 2 ^ z * 2 ^ f := Nat.mul_lt_mul_of_pos_right hV hf0
    rw [Nat.mul_comm (2 ^ z)] at this
    omega
  rw [← key]
  unfold putF
  rw [placeF_id h]
  simp only
  rw [hl, hv, mask_eq (by omega), shl_eq b1 (by omega), shl_eq b2 (by omega)]
  have u1 : u64 (n : Int) = n := u64_nat (by omega)
  have u2 : u64 (((2 ^ z - 1) * 2 ^ f : Nat) : Int) = (2 ^ z - 1) * 2 ^ f := u64_nat (by omega)
  have u3 : u64 ((u64 v % 2 ^ z * 2 ^ f : Nat) : Int) = u64 v % 2 ^ z * 2 ^ f := u64_nat (by omega)
  rw [landNot_nat _ _ (by rw [u1]; omega), u1, u2]
  have u4 : u64 ((n ^^^ n &&& (2 ^ z - 1) * 2 ^ f : Nat) : Int) = n ^^^ (n &&& (2 ^ z - 1) * 2 ^ f) := u64_nat (by
    have : n ^^^ (n &&& (2 ^ z - 1) * 2 ^ f) < 2 ^ 62 := Nat.xor_lt_two_pow hn (Nat.lt_of_le_of_lt Nat.and_le_left hn)
    omega)
  rw [lor_nat _ _ (by rw [u3, u4, key]; omega), u3, u4]

end Go.Proofs.Ytanaaecfghmmaaa

/- Fields of numbers, by division. -/
namespace Go.Proofs.Ytanaaecfghmmaaa
open Go.Fw
set_option linter.unusedVariables false
set_option linter.unusedSimpArgs false
set_option maxRecDepth 100000

def getM : PSpec := ⟨[gi, gi, gi], fun (n, a, s, _) => (some (0 ≤ n ∧ n < 4611686018427387904 ∧ 0 ≤ a ∧ 0 ≤ s ∧ a + s ≤ 62), I (n / 2 ^ a.toNat % 2 ^ s.toNat), [])⟩
theorem getM_ok : GoodF Try.prog 124 getM.spec := by
  have hT := tab_ok (fs := [(137, placeS.spec), (79, lowS.spec)]) tree_ok
  have hP : SpecsOk Try.prog (tab tree [(137, placeS.spec), (79, lowS.spec)]) := specs_cons place_ok (specs_cons low_ok specs_nil)
  refine getM.good (fn := Try.f124) hT hP Try.func124 (by kernel_rfl) rfl fun (n a s : Int) hp => ?_
  obtain ⟨h1, h2, h3, h4, h5⟩ : 0 ≤ n ∧ n < 4611686018427387904 ∧ 0 ≤ a ∧ 0 ≤ s ∧ a + s ≤ 62 := hp _ rfl
  repeat' first
    | (refine Go.mk ?_; conv => whnf)
    | refine Need.go ?_ ?_
    | refine NilG.go (fun _ => ?_) (fun _ => ?_)
    | refine Br.dec (fun _ => ?_) (fun _ => ?_)
    | refine Br.go (fun _ => ?_) (fun _ => ?_)
    | refine draw_go hT hP mixed ?_
    | refine round_go hT hP ?_
  · exact (placeF_nn a s).1
  · refine .mk [] [] _ rfl rfl rfl rfl rfl rfl (imm_int ?_)
    show getF n a s = _
    obtain ⟨n, rfl⟩ := Int.eq_ofNat_of_zero_le h1
    obtain ⟨a, rfl⟩ := Int.eq_ofNat_of_zero_le h3
    obtain ⟨s, rfl⟩ := Int.eq_ofNat_of_zero_le h4
    rw [getF_nat (by omega) (by omega)]
    simp
def putM : PSpec := ⟨[gi, gi, gi, gi], fun (n, a, s, v, _) => (some (0 ≤ n ∧ n < 4611686018427387904 ∧ 0 ≤ a ∧ 0 ≤ s ∧ a + s ≤ 62), I (2 ^ a.toNat * (2 ^ s.toNat * (n / 2 ^ (a + s).toNat) + v % 2 ^ s.toNat) + n % 2 ^ a.toNat), [])⟩
theorem putM_ok : GoodF Try.prog 123 putM.spec := by
  have hT := tab_ok (fs := [(137, placeS.spec), (79, lowS.spec)]) tree_ok
  have hP : SpecsOk Try.prog (tab tree [(137, placeS.spec), (79, lowS.spec)]) := specs_cons place_ok (specs_cons low_ok specs_nil)
  refine putM.good (fn := Try.f123) hT hP Try.func123 (by kernel_rfl) rfl fun (n a s v : Int) hp => ?_
  obtain ⟨h1, h2, h3, h4, h5⟩ : 0 ≤ n ∧ n < 4611686018427387904 ∧ 0 ≤ a ∧ 0 ≤ s ∧ a + s ≤ 62 := hp _ rfl
  repeat' first
    | (refine Go.mk ?_; conv => whnf)
    | refine Need.go ?_ ?_
    | refine NilG.go (fun _ => ?_) (fun _ => ?_)
    | refine Br.dec (fun _ => ?_) (fun _ => ?_)
    | refine Br.go (fun _ => ?_) (fun _ => ?_)
    | refine draw_go hT hP mixed ?_
    | refine round_go hT hP ?_
  · exact (placeF_nn a s).2
  · exact (placeF_nn a s).1
  · exact (placeF_nn a s).1
  · refine .mk [] [] _ rfl rfl rfl rfl rfl rfl (imm_int ?_)
    show putF n a s v = _
    obtain ⟨n, rfl⟩ := Int.eq_ofNat_of_zero_le h1
    obtain ⟨a, rfl⟩ := Int.eq_ofNat_of_zero_le h3
    obtain ⟨s, rfl⟩ := Int.eq_ofNat_of_zero_le h4
    have e : ((a : Int) + (s : Int)).toNat = a + s := by omega
    rw [putF_nat v (by omega) (by omega), e, ← u64_mod v (by omega)]
    simp

end Go.Proofs.Ytanaaecfghmmaaa

/- The chip that counts down: its registers. -/
namespace Go.Proofs.Ytanaaecfghmmaaa
open Go.Fw
set_option linter.unusedVariables false
set_option linter.unusedSimpArgs false
set_option maxRecDepth 100000

theorem and_pow (n i : Nat) : n &&& 2 ^ i = n / 2 ^ i % 2 * 2 ^ i := by
  apply Nat.eq_of_testBit_eq
  intro j
  rw [Nat.testBit_and, Nat.testBit_two_pow]
  have hb : n.testBit i = decide (n / 2 ^ i % 2 = 1) := Nat.testBit_eq_decide_div_mod_eq
  rcases Nat.mod_two_eq_zero_or_one (n / 2 ^ i) with h | h
  · rw [h] at hb ⊢
    rw [Nat.zero_mul, Nat.zero_testBit]
    by_cases e : i = j
    · subst e; rw [hb]; simp
    · simp [e]
  · rw [h] at hb ⊢
    rw [Nat.one_mul, Nat.testBit_two_pow]
    by_cases e : i = j
    · subst e; rw [hb]; simp
    · simp [e]
theorem land_128 (k : Int) : land .i64 k 128 = k / 128 % 2 * 128 := by
  have e : u64 128 = 2 ^ 7 := by decide
  have h := and_pow (u64 k) 7
  have hb : u64 k / 2 ^ 7 % 2 ≤ 1 := by omega
  rw [land_nat _ _ (by rw [e, h]; omega), e, h]
  unfold u64
  omega

def twN (N : List Int) (a k : Int) : List Int :=
  [if a = 2 ∧ k / 128 % 2 = 1 then tB N else tA N, if a = 0 then tB N / 256 * 256 + k % 256 else if a = 1 then tB N % 256 + 256 * (k % 256) else tB N, if a = 2 then k % 8 else tC N, tF N]
def twriteS : PSpec := ⟨[gD, gi, gi], fun (d, a, k, _) => (none, devR, [.arr (.int .i64) (twN d.1 a k)])⟩
def tstoredS : PSpec := ⟨[gC, gD, gi, gi], fun (c, d, a, k, _) => (some (c.2.1 = 3), devR, [.arr (.int .i64) (twN d.1 a k)])⟩
end Go.Proofs.Ytanaaecfghmmaaa

/- bakelaw1.TimerTicks answers true, whatever it is given. -/
namespace Go.Proofs.Ytanaaecfghmmaaa
open Go.Fw
set_option linter.unusedVariables false
set_option linter.unusedSimpArgs false
set_option maxRecDepth 100000

def timersS : PSpec := ⟨[], fun _ => (none, .cell (bv true), [])⟩
theorem iterT_succ (n : Nat) (l : List Int) : iterT (n + 1) l = tickT (iterT n l) := by
  rw [iterT_add n 1]; rfl
theorem len4 {l : List Int} (h : timN l = l) : l.length ≤ 4611686018427387904 := by
  rw [← h]; exact (by decide : 4 ≤ 4611686018427387904)
theorem iter_form (N : List Int) : ∀ n, timN (iterT n (timN N)) = iterT n (timN N)
  | 0 => timN_form N
  | n + 1 => by rw [iterT_succ]; exact tick_form (iter_form N n)
def ttS : PSpec := ⟨[gD, gi], fun (d, k, _) => (none, .cell (bv true), [])⟩
end Go.Proofs.Ytanaaecfghmmaaa

/- bakelaw1.TimerActs answers true, whatever it is given. -/
namespace Go.Proofs.Ytanaaecfghmmaaa
open Go.Fw
set_option linter.unusedVariables false
set_option linter.unusedSimpArgs false
set_option maxRecDepth 100000

theorem fin_read {l l' : List Int} {x y : Int} (h1 : l = l') (h2 : x = y) : [some (Blk.arr (.int .i64) l)] = [some (Blk.arr (.int .i64) l')] ∧ AV.tup [.agg [.own 0, .imm (.slice none 0 0)], I1 x] = AV.tup [.agg [.own 0, .imm (.slice none 0 0)], I1 y] := by rw [h1, h2]; exact ⟨rfl, rfl⟩
theorem tup_read {x y : Int} (h2 : x = y) : AV.tup [.agg [.own 0, .imm (.slice none 0 0)], I1 x] = AV.tup [.agg [.own 0, .imm (.slice none 0 0)], I1 y] := by rw [h2]

def trF (N : List Int) (a : Int) : Int := pickF [tA N % 256, tA N / 256, tC N, tF N] a
def trN (N : List Int) (a : Int) : List Int := [tA N, tB N, tC N, if a = 3 then 0 else tF N]
def treadS : PSpec := ⟨[gD, gi], fun (d, a, _) => (none, .tup [.agg [.own 0, .imm (.slice none 0 0)], I1 (trF d.1 a)], [.arr (.int .i64) (trN d.1 a)])⟩
def tloadedS : PSpec := ⟨[gC, gD, gi], fun (c, d, a, _) => (some (c.2.1 = 3), .tup [.agg [.own 0, .imm (.slice none 0 0)], I1 (trF d.1 a)], [.arr (.int .i64) (trN d.1 a)])⟩
def tirqS : PSpec := ⟨[gD], fun (d, _) => (none, .cell (bv (decide (tF d.1 = 1) && decide (tC d.1 ≥ 4))), [])⟩
def taskS : PSpec := ⟨[gC, gD], fun (c, d, _) => (some (c.2.1 = 3), .cell (bv (decide (tF d.1 = 1) && decide (tC d.1 ≥ 4))), [])⟩
def tnextF (N : List Int) : Int := if tC N % 2 = 0 then 100000 else tA N
def tnextS : PSpec := ⟨[gD], fun (d, _) => (none, I (tnextF d.1), [])⟩
def trestsS : PSpec := ⟨[gC, gD], fun (c, d, _) => (some (c.2.1 = 3), I (tnextF d.1), [])⟩
def tfreshS : PSpec := ⟨[gC], fun (c, _) => (some (c.2.1 = 3), devR, [.arr (.int .i64) [0, 0, 0, 0]])⟩
def taS : PSpec := ⟨[gD, gi, gi], fun (d, a, k, _) => (none, .cell (bv true), [])⟩
end Go.Proofs.Ytanaaecfghmmaaa

/- bakelaw1.SerialActs answers true, whatever it is given. -/
namespace Go.Proofs.Ytanaaecfghmmaaa
open Go.Fw
set_option linter.unusedVariables false
set_option linter.unusedSimpArgs false
set_option maxRecDepth 100000

theorem ctl4 {c : Int} (h0 : 0 ≤ c) (h1 : c < 4) : ((land .i64 c 1 != 0) = decide (c % 2 = 1)) ∧ ((land .i64 c 2 != 0) = decide (c ≥ 2)) := by
  have : c = 0 ∨ c = 1 ∨ c = 2 ∨ c = 3 := by omega
  rcases this with rfl | rfl | rfl | rfl <;> decide +kernel

def sfreshS : PSpec := ⟨[gC], fun (c, _) => (some (c.2.1 = 5), devR, [.arr (.int .i64) [0, 0, 0, 0, 0, 0, 0, 0]])⟩
def sloadedS : PSpec := ⟨[gC, gD, gi], fun (c, d, a, _) => (some (c.2.1 = 5), .tup [.agg [.own 0, .imm (.slice none 0 0)], I1 (srF d.1 a)], [.arr (.int .i64) (srN d.1 a)])⟩
def swN (N : List Int) (a k : Int) : List Int :=
  [if a = 0 ∧ s1 N = 0 then k % 256 else s0 N, if a = 0 ∧ s1 N = 0 then 40 else s1 N, s2 N, s3 N, s4 N, if a = 2 then k % 4 else s5 N, s6 N, s7 N]
def swriteS : PSpec := ⟨[gD, gi, gi], fun (d, a, k, _) => (none, devR, [.arr (.int .i64) (swN d.1 a k)])⟩
theorem swN_0 {N : List Int} {k : Int} (h : s1 N = 0) : swN N 0 k = [k % 256, 40, s2 N, s3 N, s4 N, s5 N, s6 N, s7 N] := by
  rw [swN, if_pos ⟨rfl, h⟩, if_pos ⟨rfl, h⟩, if_neg (by omega)]
theorem swN_2 {N : List Int} {k : Int} : swN N 2 k = [s0 N, s1 N, s2 N, s3 N, s4 N, k % 4, s6 N, s7 N] := by
  rw [swN, if_neg (fun e => by omega), if_neg (fun e => by omega), if_pos rfl]
theorem swN_no {N : List Int} {a k : Int} (h : ¬ (a = 0 ∧ s1 N = 0)) (h2 : ¬ a = 2) : swN N a k = serN N := by
  rw [swN, if_neg h, if_neg h, if_neg h2]; rfl
def sstoredS : PSpec := ⟨[gC, gD, gi, gi], fun (c, d, a, k, _) => (some (c.2.1 = 5), devR, [.arr (.int .i64) (swN d.1 a k)])⟩
def sgivenS : PSpec := ⟨[gC, gD, gi], fun (c, d, k, _) => (some (c.2.1 = 5), devR, [.arr (.int .i64) (sinN d.1 k)])⟩
def sirqF (N : List Int) : Bool := (decide (s5 N % 2 = 1) && decide (s3 N = 1)) || (decide (s5 N ≥ 2) && decide (s1 N = 0))
theorem sirq1 {N : List Int} (h : s5 N % 2 = 1) (h2 : s3 N = 1) : true = sirqF N := by unfold sirqF; rw [decide_eq_true h, decide_eq_true h2]; rfl
theorem sirq2 {N : List Int} (h : ¬ (s5 N % 2 = 1 ∧ s3 N = 1)) (h2 : s5 N ≥ 2) : decide (s1 N = 0) = sirqF N := by
  unfold sirqF
  rw [← Bool.decide_and, decide_eq_false h, decide_eq_true h2]; rfl
theorem sirq3 {N : List Int} (h : ¬ (s5 N % 2 = 1 ∧ s3 N = 1)) (h2 : ¬ s5 N ≥ 2) : false = sirqF N := by
  unfold sirqF
  rw [← Bool.decide_and, decide_eq_false h, decide_eq_false h2]; rfl
def sirqS : PSpec := ⟨[gD], fun (d, _) => (none, .cell (bv (sirqF d.1)), [])⟩
def saskS : PSpec := ⟨[gC, gD], fun (c, d, _) => (some (c.2.1 = 5), .cell (bv (sirqF d.1)), [])⟩
def soutS : PSpec := ⟨[gD], fun (d, _) => (none, I (s6 d.1 * 256 + s7 d.1), [])⟩
def sshowsS : PSpec := ⟨[gC, gD], fun (c, d, _) => (some (c.2.1 = 5), I (s6 d.1 * 256 + s7 d.1), [])⟩
def snextF (N : List Int) : Int := if s1 N = 0 then 100000 else s1 N - 1
def snextS : PSpec := ⟨[gD], fun (d, _) => (none, I (snextF d.1), [])⟩
def srestsS : PSpec := ⟨[gC, gD], fun (c, d, _) => (some (c.2.1 = 5), I (snextF d.1), [])⟩
def saS : PSpec := ⟨[gD, gi, gi], fun (d, a, k, _) => (none, .cell (bv true), [])⟩
end Go.Proofs.Ytanaaecfghmmaaa

/- The two voices as plain functions. -/
namespace Go.Proofs.Ytanaaecfghmmaaa
open Go.Fw
set_option linter.unusedVariables false
set_option linter.unusedSimpArgs false

/-- the numbers of a voice, from a place on -/
def vo (N : List Int) (i : Nat) : List Int := [N.getD i 0 % 4096, N.getD (i + 1) 0 % 16, N.getD (i + 2) 0 % 256, N.getD (i + 3) 0 % 4096, N.getD (i + 4) 0 % 2, N.getD (i + 5) 0 % 16384]
def sndN (N : List Int) : List Int := vo N 0 ++ vo N 6
def passV (k : Int) : List Int → List Int
  | [p, v, r, c, f, w] =>
    [p, if (r > 0 ∧ v > 0) ∧ w + k ≥ r * 64 then v - 1 else v, r, if p > 0 then (if c + k ≥ p then 0 else c + k) else c, if p > 0 ∧ c + k ≥ p then 1 - f else f,
      if r > 0 ∧ v > 0 then (if w + k ≥ r * 64 then 0 else w + k) else w]
  | l => l
def quietV : List Int → Int
  | [p, v, r, c, f, w] => min (if p > 0 then max 1 (p - c) - 1 else 100000) (if r > 0 ∧ v > 0 then max 1 (r * 64 - w) - 1 else 100000)
  | _ => 100000
inductive vOk : List Int → Prop
  | mk {p v r c f w : Int} (hp : 0 ≤ p ∧ p < 4096) (hv : 0 ≤ v ∧ v < 16) (hr : 0 ≤ r ∧ r < 256) (hc : 0 ≤ c ∧ c < 4096) (hf : 0 ≤ f ∧ f < 2) (hw : 0 ≤ w ∧ w < 16384) : vOk [p, v, r, c, f, w]
theorem vo_ok (N : List Int) (i : Nat) : vOk (vo N i) := ⟨by omega, by omega, by omega, by omega, by omega, by omega⟩
theorem vOk.len {l : List Int} (h : vOk l) : l.length = 6 := by cases h; rfl
theorem vo_idem {l : List Int} (h : vOk l) : vo l 0 = l := by
  cases h with
  | mk hp hv hr hc hf hw =>
    rename_i p v r c f w
    show [p % 4096, v % 16, r % 256, c % 4096, f % 2, w % 16384] = _
    rw [Int.emod_eq_of_lt hp.1 hp.2, Int.emod_eq_of_lt hv.1 hv.2, Int.emod_eq_of_lt hr.1 hr.2, Int.emod_eq_of_lt hc.1 hc.2, Int.emod_eq_of_lt hf.1 hf.2, Int.emod_eq_of_lt hw.1 hw.2]
theorem vo_add {a b : List Int} (h : a.length = 6) : vo (a ++ b) 6 = vo b 0 := by
  have e : ∀ j, (a ++ b).getD (6 + j) 0 = b.getD j 0 := by
    intro j
    simp only [List.getD_eq_getElem?_getD]
    rw [List.getElem?_append_right (by omega)]
    have : 6 + j - a.length = j := by omega
    rw [this]
  unfold vo
  rw [show (a ++ b).getD 6 0 = b.getD 0 0 from e 0, show (a ++ b).getD (6 + 1) 0 = b.getD 1 0 from e 1, show (a ++ b).getD (6 + 2) 0 = b.getD 2 0 from e 2, show (a ++ b).getD (6 + 3) 0 = b.getD 3 0 from e 3,
    show (a ++ b).getD (6 + 4) 0 = b.getD 4 0 from e 4, show (a ++ b).getD (6 + 5) 0 = b.getD 5 0 from e 5]
theorem vo_fst {a b : List Int} (h : vOk a) : vo (a ++ b) 0 = vo a 0 := by cases h; rfl
theorem snd_idem {a b : List Int} (ha : vOk a) (hb : vOk b) : sndN (a ++ b) = a ++ b := by
  rw [sndN, vo_fst ha, vo_add ha.len, vo_idem ha, vo_idem hb]
theorem passV_ok {l : List Int} (h : vOk l) {k : Int} (hk : 0 ≤ k) : vOk (passV k l) := by
  cases h with
  | mk hp hv hr hc hf hw =>
    refine ⟨hp, ?_, hr, ?_, ?_, ?_⟩
    · split <;> omega
    · split
      · split <;> omega
      · exact hc
    · split <;> omega
    · split
      · split <;> omega
      · exact hw
theorem passV_len (k : Int) (l : List Int) : (passV k l).length = l.length := by
  unfold passV; split <;> rfl
theorem l6 {a b c d e f a' b' c' d' e' f' : Int} (h1 : a = a') (h2 : b = b') (h3 : c = c') (h4 : d = d') (h5 : e = e') (h6 : f = f') : [a, b, c, d, e, f] = [a', b', c', d', e', f'] := by rw [h1, h2, h3, h4, h5, h6]
/-- some quiet cycles, then one more -/
theorem passV_add {l : List Int} (h : vOk l) {j : Int} (hj : 0 < j) (hq : j ≤ quietV l) : passV 1 (passV j l) = passV (j + 1) l := by
  cases h with
  | mk hp hv hr hc hf hw =>
    rename_i p v r c f w
    have e1 : quietV [p, v, r, c, f, w] = min (if p > 0 then max 1 (p - c) - 1 else 100000) (if r > 0 ∧ v > 0 then max 1 (r * 64 - w) - 1 else 100000) := rfl
    rw [e1] at hq
    have q1 : p > 0 → ¬ c + j ≥ p := fun h => by rw [if_pos h] at hq; omega
    have q2 : r > 0 ∧ v > 0 → ¬ w + j ≥ r * 64 := fun h => by rw [if_pos h] at hq; omega
    have e2 : passV j [p, v, r, c, f, w] = [p, v, r, if p > 0 then c + j else c, f, if r > 0 ∧ v > 0 then w + j else w] := by
      refine l6 rfl ?_ rfl ?_ ?_ ?_
      · exact if_neg fun h => q2 h.1 h.2
      · by_cases h : p > 0
        · rw [if_pos h, if_pos h, if_neg (q1 h)]
        · rw [if_neg h, if_neg h]
      · exact if_neg fun h => q1 h.1 h.2
      · by_cases h : r > 0 ∧ v > 0
        · rw [if_pos h, if_pos h, if_neg (q2 h)]
        · rw [if_neg h, if_neg h]
    rw [e2]
    by_cases g1 : p > 0
    · rw [if_pos g1]
      by_cases g2 : r > 0 ∧ v > 0
      · rw [if_pos g2]
        refine l6 rfl ?_ rfl ?_ ?_ ?_ <;> simp only [g1, g2, and_self, true_and, if_true, Int.add_assoc]
      · rw [if_neg g2]
        refine l6 rfl ?_ rfl ?_ ?_ ?_ <;> simp only [g1, g2, false_and, true_and, if_true, if_false, Int.add_assoc]
    · rw [if_neg g1]
      by_cases g2 : r > 0 ∧ v > 0
      · rw [if_pos g2]
        refine l6 rfl ?_ rfl ?_ ?_ ?_ <;> simp only [g1, g2, and_self, false_and, true_and, if_true, if_false, Int.add_assoc]
      · rw [if_neg g2]
        refine l6 rfl ?_ rfl ?_ ?_ ?_ <;> simp only [g1, g2, false_and, if_false]
theorem passV_idle {l : List Int} (h : vOk l) (hq : quietV l = 100000) (k : Int) : passV k l = l := by
  cases h with
  | mk hp hv hr hc hf hw =>
    rename_i p v r c f w
    have e1 : quietV [p, v, r, c, f, w] = min (if p > 0 then max 1 (p - c) - 1 else 100000) (if r > 0 ∧ v > 0 then max 1 (r * 64 - w) - 1 else 100000) := rfl
    rw [e1] at hq
    have g1 : ¬ p > 0 := fun h => by rw [if_pos h] at hq; omega
    have g2 : ¬ (r > 0 ∧ v > 0) := fun h => by rw [if_pos h] at hq; omega
    refine l6 rfl ?_ rfl ?_ ?_ ?_
    · exact if_neg fun h => g2 h.1
    · exact if_neg g1
    · exact if_neg fun h => g1 h.1
    · exact if_neg g2
theorem quietV_in {l : List Int} (h : vOk l) : 0 ≤ quietV l ∧ quietV l ≤ 100000 := by
  cases h with
  | mk hp hv hr hc hf hw =>
    rename_i p v r c f w
    have e1 : quietV [p, v, r, c, f, w] = min (if p > 0 then max 1 (p - c) - 1 else 100000) (if r > 0 ∧ v > 0 then max 1 (r * 64 - w) - 1 else 100000) := rfl
    rw [e1]
    by_cases g1 : p > 0 <;> by_cases g2 : r > 0 ∧ v > 0 <;> simp only [g1, g2, and_self, if_true, if_false] <;> omega
theorem iterP_ok {l : List Int} (h : vOk l) : ∀ n, vOk (iterF (passV 1) n l)
  | 0 => h
  | n + 1 => by rw [iterF_succ]; exact passV_ok (iterP_ok h n) (by decide)
theorem iterP_run {l : List Int} (h : vOk l) : ∀ n : Nat, 0 < n → (n : Int) ≤ quietV l + 1 → iterF (passV 1) n l = passV n l
  | 1, _, _ => rfl
  | n + 2, _, hq => by
    rw [iterF_succ, iterP_run h (n + 1) (by omega) (by omega), passV_add h (by omega) (by omega)]; rfl
theorem iterP_idle {l : List Int} (h : vOk l) (hq : quietV l = 100000) (n : Nat) : iterF (passV 1) n l = l := iterF_fix (passV_idle h hq 1) n
theorem voice_end {a : List Int} (h : vOk a) {r : Int} (hr : 0 < r) (hq : quietV a ≥ r ∨ quietV a = 100000) : passV r a = iterF (passV 1) r.toNat a := by
  rcases hq with hq | hq
  · rw [iterP_run h r.toNat (by omega) (by omega)]
    have e : ((r.toNat : Nat) : Int) = r := by omega
    rw [e]
  · rw [iterP_idle h hq, passV_idle h hq]
theorem voice_step {a : List Int} (h : vOk a) {r : Int} (hq : quietV a < r) : iterF (passV 1) (r - (quietV a + 1)).toNat (passV (quietV a + 1) a) = iterF (passV 1) r.toNat a := by
  have hq0 := quietV_in h
  have e : r.toNat = (quietV a + 1).toNat + (r - (quietV a + 1)).toNat := by omega
  rw [e, iterF_add, iterP_run h (quietV a + 1).toNat (by omega) (by omega)]
  have e2 : (((quietV a + 1).toNat : Nat) : Int) = quietV a + 1 := by omega
  rw [e2]
theorem fst6 {a b : List Int} (h : a.length = 6) : ((a ++ b).drop 0).take 6 = a := List.take_left' h
theorem snd6 {a b : List Int} (h : a.length = 6) (h2 : b.length = 6) : ((a ++ b).drop 6).take 6 = b := by rw [List.drop_left' h]; exact List.take_of_length_le (by omega)
theorem heap2 {x : Blk} {l l' : List Int} (h : l = l') : [some x, some (Blk.arr (.int .i64) l)] = [some x, some (Blk.arr (.int .i64) l')] := by rw [h]
/-- a voice within the state -/
def passL (off : Nat) (l : List Int) (k : Int) : List Int := l.take off ++ (passV k ((l.drop off).take 6) ++ l.drop (off + 6))
theorem passL_fst {a b : List Int} (h : a.length = 6) (k : Int) : passL 0 (a ++ b) k = passV k a ++ b := by
  unfold passL
  simp [← h]
theorem passL_snd {a b : List Int} (h : a.length = 6) (h2 : b.length = 6) (k : Int) : passL 6 (a ++ b) k = a ++ passV k b := by
  unfold passL
  rw [List.take_left' h, List.drop_left' h, List.take_of_length_le (by omega), List.drop_eq_nil_of_le (by simp [h, h2]), List.append_nil]
def tickW (l : List Int) : List Int := passV 1 (l.take 6) ++ passV 1 (l.drop 6)
theorem tickW_app {a b : List Int} (h : a.length = 6) : tickW (a ++ b) = passV 1 a ++ passV 1 b := by unfold tickW; simp [← h]
theorem iterW {a b : List Int} (ha : vOk a) (hb : vOk b) : ∀ n, iterF tickW n (a ++ b) = iterF (passV 1) n a ++ iterF (passV 1) n b
  | 0 => rfl
  | n + 1 => by rw [iterF_succ, iterW ha hb n, tickW_app (iterP_ok ha n).len, iterF_succ, iterF_succ]

end Go.Proofs.Ytanaaecfghmmaaa

/- The chip with two voices: its state, the passing of cycles. -/
namespace Go.Proofs.Ytanaaecfghmmaaa
open Go.Fw
set_option linter.unusedVariables false
set_option linter.unusedSimpArgs false
set_option maxRecDepth 100000

def ofitS : PSpec := ⟨[gD], fun (d, _) => (none, .cell (.own 0), [.arr (.int .i64) (sndN d.1)])⟩
def onewS : PSpec := ⟨[], fun _ => (none, devR, [.arr (.int .i64) (List.replicate 12 0)])⟩
def quietS : PSpec := ⟨[gl], fun (l, _) => (some (vOk l), I (quietV l), [])⟩
def passS : WSpec := ⟨Nat × List Int × Int, fun x => [.c (.sub 0 x.1 6), .c (iv .i64 x.2.2)], fun x => [.arr (.int .i64) x.2.1],
  fun a b => (match a, b with | [.c (.sub 0 off 6), .c (.imm (.int .i64 k))], [.arr (.int .i64) l] => some (off, l, k) | _, _ => none),
  fun x => (some ((x.1 = 0 ∨ x.1 = 6) ∧ (∃ a b, x.2.1 = a ++ b ∧ vOk a ∧ vOk b) ∧ 0 ≤ x.2.2 ∧ x.2.2 ≤ 10000000), .tup [], [some (.arr (.int .i64) (passL x.1 x.2.1 x.2.2))], [])⟩
end Go.Proofs.Ytanaaecfghmmaaa

/- The chip with two voices: many cycles, registers. -/
namespace Go.Proofs.Ytanaaecfghmmaaa
open Go.Fw
set_option linter.unusedVariables false
set_option linter.unusedSimpArgs false
set_option maxRecDepth 100000

def oskipS : PSpec := ⟨[gD, gi], fun (d, k, _) => (some (k ≤ 10000000), devR, [.arr (.int .i64) (iterF tickW k.toNat (sndN d.1))])⟩
end Go.Proofs.Ytanaaecfghmmaaa

/- The chip with two voices: registers. -/
namespace Go.Proofs.Ytanaaecfghmmaaa
open Go.Fw
set_option linter.unusedVariables false
set_option linter.unusedSimpArgs false
set_option maxRecDepth 100000

def otickS : PSpec := ⟨[gD], fun (d, _) => (none, devR, [.arr (.int .i64) (tickW (sndN d.1))])⟩
theorem oR (N : List Int) : (0 ≤ N.getD 0 0 % 4096 ∧ N.getD 0 0 % 4096 < 4096) ∧ (0 ≤ N.getD 1 0 % 16 ∧ N.getD 1 0 % 16 < 16) ∧ (0 ≤ N.getD 4 0 % 2 ∧ N.getD 4 0 % 2 < 2) ∧ (0 ≤ N.getD 6 0 % 4096 ∧ N.getD 6 0 % 4096 < 4096) ∧ (0 ≤ N.getD 7 0 % 16 ∧ N.getD 7 0 % 16 < 16) ∧ (0 ≤ N.getD 10 0 % 2 ∧ N.getD 10 0 % 2 < 2) := by omega
theorem mul_small {a b : Int} (h1 : 0 ≤ a ∧ a < 16) (h2 : 0 ≤ b ∧ b < 2) : 0 ≤ a * b ∧ a * b < 16 := by
  have : b = 0 ∨ b = 1 := by omega
  rcases this with rfl | rfl <;> omega
def ooutF (N : List Int) : Int := N.getD 1 0 % 16 * (N.getD 4 0 % 2) + N.getD 7 0 % 16 * (N.getD 10 0 % 2)
def ooutS : PSpec := ⟨[gD], fun (d, _) => (none, I (ooutF d.1), [])⟩
theorem oout_wrap (N : List Int) : IntKind.i64.wrap (IntKind.i64.wrap (N.getD 1 0 % 16 * (N.getD 4 0 % 2)) + IntKind.i64.wrap (N.getD 7 0 % 16 * (N.getD 10 0 % 2))) = ooutF N := by
  obtain ⟨h0, h1, h2, h3, h4, h5⟩ := oR N
  have m1 := mul_small h1 h2
  have m2 := mul_small h4 h5
  rw [w64 (x := N.getD 1 0 % 16 * (N.getD 4 0 % 2)) (by omega) (by omega), w64 (x := N.getD 7 0 % 16 * (N.getD 10 0 % 2)) (by omega) (by omega), w64 (by omega) (by omega)]; rfl
def onextF (N : List Int) : Int := min (quietV (vo N 0)) (quietV (vo N 6))
def onextS : PSpec := ⟨[gD], fun (d, _) => (none, I (onextF d.1), [])⟩
def voiceLoS : WSpec := ⟨List Int × Int, fun x => [.c (.own 0), I1 x.2], fun x => [.arr (.int .i64) x.1], fun a b => (match a, b with | [.c (.own 0), .c (.imm (.int .i64 k))], [.arr (.int .i64) n] => some (n, k) | _, _ => none),
  fun x => (some ((0 ≤ x.2 ∧ x.2 < 4) ∧ List.length x.1 = 12), .cell (.sub 0 0 6), [some (.arr (.int .i64) x.1)], [])⟩
def voiceHiS : WSpec := ⟨List Int × Int, fun x => [.c (.own 0), I1 x.2], fun x => [.arr (.int .i64) x.1], fun a b => (match a, b with | [.c (.own 0), .c (.imm (.int .i64 k))], [.arr (.int .i64) n] => some (n, k) | _, _ => none),
  fun x => (some ((4 ≤ x.2 ∧ x.2 < 8) ∧ List.length x.1 = 12), .cell (.sub 0 6 6), [some (.arr (.int .i64) x.1)], [])⟩
def voiceNoS : WSpec := ⟨List Int × Int, fun x => [.c (.own 0), I1 x.2], fun x => [.arr (.int .i64) x.1], fun a b => (match a, b with | [.c (.own 0), .c (.imm (.int .i64 k))], [.arr (.int .i64) n] => some (n, k) | _, _ => none),
  fun x => (some (x.2 < 0 ∨ x.2 ≥ 8), .cell (.imm (.slice none 0 0)), [some (.arr (.int .i64) x.1)], [])⟩
def orF (N : List Int) (a : Int) : Int := pickF [N.getD 0 0 % 4096 % 256, N.getD 0 0 % 4096 / 256, N.getD 1 0 % 16, N.getD 2 0 % 256, N.getD 6 0 % 4096 % 256, N.getD 6 0 % 4096 / 256, N.getD 7 0 % 16, N.getD 8 0 % 256] a
theorem get_lo {n : Int} : n / 2 ^ (0 : Int).toNat % 2 ^ (8 : Int).toNat = n % 256 := by
  show n / 1 % 256 = n % 256
  rw [Int.ediv_one]
theorem get_hi {n : Int} (h : 0 ≤ n ∧ n < 4096) : n / 2 ^ (8 : Int).toNat % 2 ^ (4 : Int).toNat = n / 256 := by
  show n / 256 % 16 = n / 256
  omega
def oreadLoS : PSpec := ⟨[gD, gi], fun (d, a, _) => (some (0 ≤ a ∧ a < 4), .tup [.agg [.own 0, .imm (.slice none 0 0)], I1 (orF d.1 a)], [.arr (.int .i64) (sndN d.1)])⟩
def oreadHiS : PSpec := ⟨[gD, gi], fun (d, a, _) => (some (4 ≤ a ∧ a < 8), .tup [.agg [.own 0, .imm (.slice none 0 0)], I1 (orF d.1 a)], [.arr (.int .i64) (sndN d.1)])⟩
def oreadNoS : PSpec := ⟨[gD, gi], fun (d, a, _) => (some (a < 0 ∨ a ≥ 8), .tup [.agg [.own 0, .imm (.slice none 0 0)], I1 (orF d.1 a)], [.arr (.int .i64) (sndN d.1)])⟩
theorem out8 (a : Int) (h : ¬ (0 ≤ a ∧ a < 8)) : a < 0 ∨ a ≥ 8 := by omega
def oreadS : PSpec := ⟨[gD, gi], fun (d, a, _) => (none, .tup [.agg [.own 0, .imm (.slice none 0 0)], I1 (orF d.1 a)], [.arr (.int .i64) (sndN d.1)])⟩
def oread8S : PSpec := ⟨[gD, gi], fun (d, a, _) => (some (0 ≤ a ∧ a < 8), .tup [.agg [.own 0, .imm (.slice none 0 0)], I1 (orF d.1 a)], [.arr (.int .i64) (sndN d.1)])⟩
def owF (N : List Int) (a k : Int) : List Int :=
  if a = 0 then (sndN N).set 0 (N.getD 0 0 % 4096 / 256 * 256 + k % 256) else if a = 1 then (sndN N).set 0 (N.getD 0 0 % 4096 % 256 + k % 16 * 256) else if a = 2 then ((sndN N).set 1 (k % 16)).set 5 0 else if a = 3 then (sndN N).set 2 (k % 256)
  else if a = 4 then (sndN N).set 6 (N.getD 6 0 % 4096 / 256 * 256 + k % 256) else if a = 5 then (sndN N).set 6 (N.getD 6 0 % 4096 % 256 + k % 16 * 256) else if a = 6 then ((sndN N).set 7 (k % 16)).set 11 0 else if a = 7 then (sndN N).set 8 (k % 256) else sndN N
theorem put_lo {n k : Int} (h : 0 ≤ n ∧ n < 4096) : 2 ^ (0 : Int).toNat * (2 ^ (8 : Int).toNat * (n / 2 ^ ((0 : Int) + 8).toNat) + k % 2 ^ (8 : Int).toNat) + n % 2 ^ (0 : Int).toNat = n / 256 * 256 + k % 256 := by
  show 1 * (256 * (n / 256) + k % 256) + n % 1 = _
  omega
theorem put_hi {n k : Int} (h : 0 ≤ n ∧ n < 4096) : 2 ^ (8 : Int).toNat * (2 ^ (4 : Int).toNat * (n / 2 ^ ((8 : Int) + 4).toNat) + k % 2 ^ (4 : Int).toNat) + n % 2 ^ (8 : Int).toNat = n % 256 + k % 16 * 256 := by
  show 256 * (16 * (n / 4096) + k % 16) + n % 256 = _
  omega
theorem set_eq {l : List Int} {i : Nat} {x y : Int} (h : x = y) : l.set i x = l.set i y := by rw [h]
def owriteLoS : PSpec := ⟨[gD, gi, gi], fun (d, a, k, _) => (some (0 ≤ a ∧ a < 4), devR, [.arr (.int .i64) (owF d.1 a k)])⟩
def owriteHiS : PSpec := ⟨[gD, gi, gi], fun (d, a, k, _) => (some (4 ≤ a ∧ a < 8), devR, [.arr (.int .i64) (owF d.1 a k)])⟩
def owriteNoS : PSpec := ⟨[gD, gi, gi], fun (d, a, k, _) => (some (a < 0 ∨ a ≥ 8), devR, [.arr (.int .i64) (owF d.1 a k)])⟩
def owriteS : PSpec := ⟨[gD, gi, gi], fun (d, a, k, _) => (none, devR, [.arr (.int .i64) (owF d.1 a k)])⟩
def owrite8S : PSpec := ⟨[gD, gi, gi], fun (d, a, k, _) => (some (0 ≤ a ∧ a < 8), devR, [.arr (.int .i64) (owF d.1 a k)])⟩
def soundsS : PSpec := ⟨[], fun _ => (none, .cell (bv true), [])⟩
end Go.Proofs.Ytanaaecfghmmaaa

/- The chip with two voices, by the document. -/
namespace Go.Proofs.Ytanaaecfghmmaaa
open Go.Fw
set_option linter.unusedVariables false
set_option linter.unusedSimpArgs false
set_option maxRecDepth 100000

def sndC : Cv := (ByteArray.empty, 7, 0, 0, [])
def omods : List Int := [4096, 16, 256, 4096, 2, 16384, 4096, 16, 256, 4096, 2, 16384]
theorem omods_ok : omods.length ≤ 1000 ∧ ∀ m ∈ omods, 0 < m ∧ m ≤ 4611686018427387904 := by decide
def oformedS : PSpec := ⟨[gC, gD], fun (c, d, _) => (some (c.2.1 = 7), devR, [.arr (.int .i64) (sndN d.1)])⟩
def ofreshS : PSpec := ⟨[gC], fun (c, _) => (some (c.2.1 = 7), devR, [.arr (.int .i64) (List.replicate 12 0)])⟩
theorem tm {n m : Int} (h : 0 ≤ n) : Int.tmod n m = n % m := Int.tmod_eq_emod_of_nonneg h
theorem td256 {n : Int} (h : 0 ≤ n ∧ n < 4096) : IntKind.i64.wrap (Int.tdiv n 256) = n / 256 := by rw [Int.tdiv_eq_ediv_of_nonneg h.1, w64 (by omega) (by omega)]
def oloadedS : PSpec := ⟨[gC, gD, gi], fun (c, d, a, _) => (some (c.2.1 = 7), .tup [.agg [.own 0, .imm (.slice none 0 0)], I1 (orF d.1 a)], [.arr (.int .i64) (sndN d.1)])⟩
theorem st_lo {n k : Int} (h : 0 ≤ n ∧ n < 4096) : IntKind.i64.wrap (IntKind.i64.wrap (IntKind.i64.wrap (Int.tdiv n 256) * 256) + k % 256) = n / 256 * 256 + k % 256 := by
  rw [td256 h, w64 (x := n / 256 * 256) (by omega) (by omega), w64 (by omega) (by omega)]
theorem st_v {k : Int} : Int.tmod (k % 256) 16 = k % 16 := by rw [tm (by omega)]; omega
theorem st_hi {n k : Int} (h : 0 ≤ n ∧ n < 4096) : IntKind.i64.wrap (Int.tmod n 256 + IntKind.i64.wrap (Int.tmod (k % 256) 16 * 256)) = n % 256 + k % 16 * 256 := by
  rw [tm h.1, st_v, w64 (x := k % 16 * 256) (by omega) (by omega), w64 (by omega) (by omega)]
theorem set2_eq {l : List Int} {i j : Nat} {x y z : Int} (h : x = y) : (l.set i x).set j z = (l.set i y).set j z := by rw [h]
def ostoredS : PSpec := ⟨[gC, gD, gi, gi], fun (c, d, a, k, _) => (some (c.2.1 = 7), devR, [.arr (.int .i64) (owF d.1 a k)])⟩
def oshowsS : PSpec := ⟨[gC, gD], fun (c, d, _) => (some (c.2.1 = 7), I (ooutF d.1), [])⟩
theorem heap4 {x y z : Blk} {l l' : List Int} (h : l = l') : [some x, some y, some (Blk.arr (.int .i64) l), some z] = [some x, some y, some (Blk.arr (.int .i64) l'), some z] := by rw [h]
def otickedS : PSpec := ⟨[gC, gD], fun (c, d, _) => (some (c.2.1 = 7), devR, [.arr (.int .i64) (tickW (sndN d.1))])⟩
end Go.Proofs.Ytanaaecfghmmaaa

/- The chip with two voices, by the document: how long it rests. -/
namespace Go.Proofs.Ytanaaecfghmmaaa
open Go.Fw
set_option linter.unusedVariables false
set_option linter.unusedSimpArgs false
set_option maxRecDepth 100000

theorem mul_pos2 {v r : Int} (hv : 0 ≤ v ∧ v < 16) (hr : 0 ≤ r ∧ r < 256) : (0 < v * r) = (0 < r ∧ 0 < v) := by
  apply propext
  constructor
  · intro h
    by_cases h1 : v = 0
    · rw [h1, Int.zero_mul] at h; omega
    · by_cases h2 : r = 0
      · rw [h2, Int.mul_zero] at h; omega
      · omega
  · rintro ⟨h1, h2⟩
    exact Int.mul_pos h2 h1
theorem mul_in2 {v r : Int} (hv : 0 ≤ v ∧ v < 16) (hr : 0 ≤ r ∧ r < 256) : 0 ≤ v * r ∧ v * r < 4096 := by
  refine ⟨Int.mul_nonneg hv.1 hr.1, ?_⟩
  have h1 : v * r ≤ 15 * r := Int.mul_le_mul_of_nonneg_right (by omega) hr.1
  omega
theorem decrec_ite {p : Prop} (a b : Int) (i : Decidable p) : (Decidable.rec (motive := fun _ => Int) (fun _ => a) (fun _ => b) i) = if p then b else a := by cases i <;> simp [*]
theorem quiet_min {p v r c f w : Int} : quietV [p, v, r, c, f, w] = min (if p > 0 then max 1 (p - c) - 1 else 100000) (if r > 0 ∧ v > 0 then max 1 (r * 64 - w) - 1 else 100000) := rfl
def orestsS : PSpec := ⟨[gC, gD], fun (c, d, _) => (some (c.2.1 = 7), I (onextF d.1), [])⟩
end Go.Proofs.Ytanaaecfghmmaaa

/- Where a byte is in a text; what counts as a name, for the reference. -/
namespace Go.Proofs.Ytanaaecfghmmaaa
open Go.Fw
set_option linter.unusedVariables false
set_option linter.unusedSimpArgs false
set_option linter.constructorNameAsVariable false
set_option maxRecDepth 100000

abbrev gu8 : Sig := ⟨false, .int .u8⟩
set_option maxHeartbeats 1000000 in
theorem idxb_run (s : ByteArray) (c : Int) (w : World) :
    Calls Try.prog 91 #[.string s, .int .u8 c] w fun e w' => e = .returned (.int .i64 (Lib.indexByte s.data.toList c.toNat.toUInt8)) ∧ w' = w := by
  have mixed : Try.prog.follows .mixedOrders = true := mixed
  go_enter Try.func91, Try.ntmps91
  go_wp2
  rw [run_callFunc_extern Try.func113 (by kernel_rfl) (by kernel_rfl) (by kernel_rfl) (e := Extern.BytealgIndexByte.indexByte) (by kernel_rfl), Lib.run_indexByteString]
  simp only [Result.andThen]
  rw [Oper.upon_value]
  go_wp2
  go_ret
  exact ⟨rfl, rfl⟩
def idxbS : PSpec := ⟨[gStr, gu8], fun (s, c, _) => (none, I (Lib.indexByte s.data.toList (Int.toNat c).toUInt8), [])⟩
theorem idxb_ok : GoodF Try.prog 91 idxbS.spec := by
  refine PSpec.of_calls Try.func91 (by kernel_rfl) rfl idxbS (fun _ => rfl) fun E (s, c, _) vs hv _ => ?_
  obtain ⟨v1, r1, e1, ⟨h1, _⟩, v2, r2, e2, ⟨h2, _⟩, h3⟩ := hv
  injection h1 with h1
  injection h2 with h2
  have h3 : r2 = [] := h3
  have e : vs = #[.string s, .int .u8 c] := by
    apply Array.ext'
    rw [e1, e2, h3, h1, h2]
  subst e
  refine (idxb_run s c E.w).mono ?_
  rintro e w' ⟨rfl, rfl⟩
  exact ⟨⟨_, rfl, rfl, rfl⟩, rfl⟩
theorem sIndexByte_ok : GoodF Try.prog 56 idxbS.spec := by
  have hT := tab_ok (fs := [(91, idxbS.spec)]) tree_ok
  have hP : SpecsOk Try.prog (tab tree [(91, idxbS.spec)]) := specs_cons idxb_ok specs_nil
  refine idxbS.good (fn := Try.f56) hT hP Try.func56 (by kernel_rfl) rfl fun (s : ByteArray) (c : Int) _ => ?_
  repeat' first
    | (refine Go.mk ?_; conv => whnf)
    | refine Need.go ?_ ?_
    | refine NilG.go (fun _ => ?_) (fun _ => ?_)
    | refine Br.dec (fun _ => ?_) (fun _ => ?_)
    | refine Br.go (fun _ => ?_) (fun _ => ?_)
    | refine draw_go hT hP mixed ?_
    | refine round_go hT hP ?_
  exact .mk [] [] _ rfl rfl rfl rfl rfl rfl rfl


def lets : List UInt8 := [97, 98, 99, 100, 101, 102, 103, 104, 105, 106, 107, 108, 109, 110, 111, 112, 113, 114, 115, 116, 117, 118, 119, 120, 121, 122]
def lets2 : List UInt8 := lets ++ [48, 49, 50, 51, 52, 53, 54, 55, 56, 57, 45]
theorem lets_all : (List.range 256).all (fun n => decide (Lib.indexByte lets n.toUInt8 < 0) == !decide (97 ≤ n ∧ n ≤ 122)) = true := by decide +kernel
theorem lets2_all : (List.range 256).all (fun n => decide (Lib.indexByte lets2 n.toUInt8 < 0) == !letB (n : Int)) = true := by decide +kernel
theorem lets_in {c : Int} (h : 0 ≤ c ∧ c < 256) : decide (Lib.indexByte lets c.toNat.toUInt8 < 0) = !decide (97 ≤ c ∧ c ≤ 122) := by
  have := List.all_eq_true.1 lets_all c.toNat (List.mem_range.2 (by omega))
  rw [beq_iff_eq] at this
  rw [this]
  congr 1
  by_cases h2 : 97 ≤ c ∧ c ≤ 122
  · rw [decide_eq_true h2, decide_eq_true (by omega)]
  · rw [decide_eq_false h2, decide_eq_false (by omega)]
theorem lets2_in {c : Int} (h : 0 ≤ c ∧ c < 256) : decide (Lib.indexByte lets2 c.toNat.toUInt8 < 0) = !letB c := by
  have := List.all_eq_true.1 lets2_all c.toNat (List.mem_range.2 (by omega))
  rw [beq_iff_eq] at this
  rw [this]
  have : ((c.toNat : Nat) : Int) = c := by omega
  rw [this]
theorem rNamed_ok : GoodF Try.prog 20 nameS.spec := by
  have hT := tab_ok (fs := [(56, idxbS.spec)]) tree_ok
  have hP : SpecsOk Try.prog (tab tree [(56, idxbS.spec)]) := specs_cons sIndexByte_ok specs_nil
  refine nameS.good (fn := Try.f20) hT hP Try.func20 (by kernel_rfl) rfl fun (s : ByteArray) _ => ?_
  have hL := bytes_len s
  repeat' first
    | (refine Go.mk ?_; conv => whnf)
    | refine Need.go ?_ ?_
    | refine NilG.go (fun _ => ?_) (fun _ => ?_)
    | refine Br.dec (fun _ => ?_) (fun _ => ?_)
    | refine Br.go (fun _ => ?_) (fun _ => ?_)
    | refine draw_go hT hP mixed ?_
    | refine round_go hT hP ?_
  · rename_i h
    have h : (s.size : Int) < 1 := h
    exact .mk [] [] _ rfl rfl rfl rfl rfl rfl (imm_bool (name_no (.inl (by omega))).symm)
  · rename_i h
    have h : (s.size : Int) > 20 := h
    exact .mk [] [] _ rfl rfl rfl rfl rfl rfl (imm_bool (name_no (.inr (.inl (by omega)))).symm)
  · rename_i h _
    have h : ¬ (s.size : Int) < 1 := h
    show 0 ≤ (0 : Int) ∧ (0 : Int) < (s.size : Int)
    omega
  · rename_i h1 h2 h3
    have h1 : ¬ (s.size : Int) < 1 := h1
    have hc := bytes_in s ((bytesOf s).getD 0 0) (by rw [List.getD_eq_getElem?_getD, List.getElem?_eq_getElem (by omega)]; exact List.getElem_mem _)
    have h3 : Lib.indexByte lets (byteAt s 0).toNat.toUInt8 < 0 := h3
    rw [byte_at] at h3
    have e := lets_in hc
    rw [decide_eq_true h3] at e
    have e : decide (97 ≤ (bytesOf s).getD 0 0 ∧ (bytesOf s).getD 0 0 ≤ 122) = false := by
      cases hd : decide (97 ≤ (bytesOf s).getD 0 0 ∧ (bytesOf s).getD 0 0 ≤ 122) with
      | true => rw [hd] at e; cases e
      | false => rfl
    have e := of_decide_eq_false e
    exact .mk [] [] _ rfl rfl rfl rfl rfl rfl (imm_bool (name_no (by omega)).symm)
  rename_i h1 h2 h3
  have h1 : ¬ (s.size : Int) < 1 := h1
  have h2 : ¬ (s.size : Int) > 20 := h2
  have hc0 := bytes_in s ((bytesOf s).getD 0 0) (by rw [List.getD_eq_getElem?_getD, List.getElem?_eq_getElem (by omega)]; exact List.getElem_mem _)
  have h3 : ¬ Lib.indexByte lets (byteAt s 0).toNat.toUInt8 < 0 := h3
  rw [byte_at] at h3
  have e := lets_in hc0
  rw [decide_eq_false h3] at e
  have e : decide (97 ≤ (bytesOf s).getD 0 0 ∧ (bytesOf s).getD 0 0 ≤ 122) = true := by
    cases hd : decide (97 ≤ (bytesOf s).getD 0 0 ∧ (bytesOf s).getD 0 0 ≤ 122) with
    | true => rfl
    | false => rw [hd] at e; cases e
  have e := of_decide_eq_true e
  have hF : nameB (bytesOf s) = (bytesOf s).all letB := by
    unfold nameB
    rw [decide_eq_true ⟨by omega, by omega, by omega, by omega⟩, Bool.true_and]
  refine up_go hT hP (A := Unit) (bytesOf s).length (fun i _ => St.mk [.imm (.string s), .dead, .dead, .dead, .dead, .dead, .dead, .dead, .dead, .dead, .dead, .dead, .dead, .dead, .dead, .dead, .dead, .dead, .dead, I (s.size : Int), I i, .dead, .dead, .dead, .dead, .dead, .dead, .dead, .dead] [])
    (fun k _ => ((bytesOf s).take k).all letB = true) () (Le.mk [] [] rfl rfl rfl ?_) (by simp) fun k _ hk hi => ?_
  · repeat' first | exact trivial | exact ⟨rfl, rfl⟩ | refine And.intro ?_ ?_
  repeat' first
    | (refine Go.mk ?_; conv => whnf)
    | refine Need.go ?_ ?_
    | refine NilG.go (fun _ => ?_) (fun _ => ?_)
    | refine Br.dec (fun _ => ?_) (fun _ => ?_)
    | refine Br.go (fun _ => ?_) (fun _ => ?_)
    | refine draw_go hT hP mixed ?_
    | refine round_go hT hP ?_
  · rename_i g1
    have g1 : (k : Int) < (s.size : Int) := g1
    show 0 ≤ (k : Int) ∧ (k : Int) < (s.size : Int)
    omega
  · rename_i g1 g2
    have g1 : (k : Int) < (s.size : Int) := g1
    have hk2 : k < (bytesOf s).length := by omega
    have hc := bytes_in s ((bytesOf s).getD k 0) (by rw [List.getD_eq_getElem?_getD, List.getElem?_eq_getElem hk2]; exact List.getElem_mem _)
    have g2 : Lib.indexByte lets2 (byteAt s k).toNat.toUInt8 < 0 := g2
    rw [byte_at] at g2
    have e := lets2_in hc
    rw [decide_eq_true g2] at e
    have e : letB ((bytesOf s).getD k 0) = false := by
      cases hd : letB ((bytesOf s).getD k 0) with
      | true => rw [hd] at e; cases e
      | false => rfl
    refine .mk [] [] _ rfl rfl rfl rfl rfl rfl (imm_bool ?_)
    rw [hF, all_no hk2 e]
  · rename_i g1 g2
    have g1 : (k : Int) < (s.size : Int) := g1
    have hk2 : k < (bytesOf s).length := by omega
    have hc := bytes_in s ((bytesOf s).getD k 0) (by rw [List.getD_eq_getElem?_getD, List.getElem?_eq_getElem hk2]; exact List.getElem_mem _)
    have g2 : ¬ Lib.indexByte lets2 (byteAt s k).toNat.toUInt8 < 0 := g2
    rw [byte_at] at g2
    have e := lets2_in hc
    rw [decide_eq_false g2] at e
    have e : letB ((bytesOf s).getD k 0) = true := by
      cases hd : letB ((bytesOf s).getD k 0) with
      | true => rfl
      | false => rw [hd] at e; cases e
    apply Exists.intro
    apply Exists.intro ()
    refine And.intro (And.intro ?lt166 (And.intro ?ei166 ?inv166)) (Le.mk [] [] rfl rfl ?hh166 ?ht166)
    case hh166 => exact rfl
    case ht166 => repeat' first | exact trivial | exact ⟨rfl, rfl⟩ | refine And.intro ?_ ?_
    case lt166 => omega
    case ei166 => exact up_i (by omega)
    exact all_take hk2 hi e
  · rename_i g1
    have g1 : ¬ (k : Int) < (s.size : Int) := g1
    refine .mk [] [] _ rfl rfl rfl rfl rfl rfl (imm_bool ?_)
    rw [hF]
    rw [List.take_of_length_le (by omega)] at hi
    exact hi.symm

end Go.Proofs.Ytanaaecfghmmaaa

