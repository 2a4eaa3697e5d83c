/- The row of SaveReads, from the contract of the function. -/
import Derived.Test.YtanaaecfghmmaaaRows
import Derived.Test.YtanaaecfghmmaaaG12
import Derived.WalkKit
import Derived.ProofKit
import Derived.OpenShut
import Derived.ShutString
import Derived.ChangeOld
import Derived.Below
import Derived.SizedLaws
namespace Go.Proofs.Ytanaaecfghmmaaa.saveReads
open Go.ChangeShapes Go.WideShapes Go.ChangeAt Go.RowKit Go.Fw
set_option linter.unusedVariables false
theorem own : ownKnob Try.prog.godebug = none := by kernel_rfl
theorem laid : laidOutB Try.prog = true := by kernel_rfl
set_option maxRecDepth 100000 in
theorem lifted (os : Os) (started : os.Started) (H : Type) (enc : TypeId × Value → H) :
    ReturnsInHanded {} Try.checked os 4 .any (Rows.saveReadsSpec.pre6 enc Try.prog Try.f4 Rows.saveReadsRow.domain false) (Rows.saveReadsSpec.post enc Try.prog Try.f4 false true false false) := by
  refine returnsInHanded_of_change_sized (C := Try.checked) own started (by kernel_rfl) Try.func4
    (ChangeSpec.witness6 (enc := enc) (C := Try.checked) false ⟨#[], #[.slice none 0 0], []⟩ 8 (by kernel_rfl) (by kernel_rfl) (by kernel_rfl) (by kernel_rfl)) ?_
  intro W base args ds gs before hval0 hW hcnd hsz0 _
  have hW' := hW
  obtain ⟨p, q, hA0, hV, rfl, hfz, hnd⟩ := hW
  obtain ⟨rfl, rfl⟩ := trodVars_none hV
  have hA : DataW.TrodAll enc Try.prog W 0 (fun _ => true) true Try.f4.params.toList args.toList ds p := hA0
  rw [Try.params4] at hA
  obtain ⟨v0, vs0, d0, ds0, p0, q0, hargs, rfl, rfl, h0, r0⟩ := trodAll_cons hA
  obtain ⟨rfl, rfl, rfl⟩ := trodAll_nil r0
  clear hA
  refine (PSpec.law_all (s := svrS) svr_ok (m := 9) (ts := Try.f4.params.toList) (by kernel_rfl) rfl (by kernel_rfl) laid (fun j t v h1 h2 => hval0 j t v (by rw [← Array.getElem?_toList]; exact h1) (by rw [← Array.getElem?_toList]; exact h2)) hsz0 hA0 fun xs hw => ⟨_, rfl, fun z hz => by cases hz; exact svr_pre xs hw⟩).mono fun e W' ⟨he, bel, back⟩ => ?_
  subst he
  exact ⟨_, rfl, _, _, _, [], _, [], hW', trodAll_mk1 (shut_bool Try.underlying4 _), back, rfl, bel.frame _, fun h => by cases h⟩
theorem over : Rows.saveReadsRow.holds Try.pinned (OpenSpec.ofChange Rows.saveReadsSpec) :=
  OpenClaim.holds_of_wide 4 Try.f4 rfl rfl rfl rfl rfl rfl rfl ⟨rfl, rfl, rfl, rfl, rfl⟩ rfl rfl rfl rfl rfl (by kernel_rfl) Try.func4 (by kernel_rfl)
    (of_decide_eq_true (by kernel_rfl)) (by unfold Func.isWrapper; first | (rw [if_pos (by decide +kernel)]; kernel_rfl) | (rw [if_neg (by decide +kernel)]; exact ⟨rfl, rfl⟩))
    (fun os started H enc _ => lifted os started H enc)
theorem proved : Rows.SaveReadsSaid := over
#print axioms proved
end Go.Proofs.Ytanaaecfghmmaaa.saveReads
namespace Go.Proofs.Ytanaaecfghmmaaa
/-- The row, under a short name, for the claim. -/
theorem saveReads_holds : Rows.SaveReadsSaid := saveReads.proved
end Go.Proofs.Ytanaaecfghmmaaa
