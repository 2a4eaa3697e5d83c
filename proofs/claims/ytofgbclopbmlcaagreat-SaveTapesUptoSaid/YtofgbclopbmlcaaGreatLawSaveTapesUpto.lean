/- The row of SaveTapes, from the contract of the function. -/
import Derived.Test.YtofgbclopbmlcaaGreatRows
import Derived.Test.YtofgbclopbmlcaaGreatG49
import Derived.Test.YtofgbclopbmlcaaGreatG28
import Derived.WalkKit
import Derived.ProofKit
import Derived.OpenShut
import Derived.ShutString
import Derived.ChangeOld
import Derived.Below
import Derived.SizedLaws
import Derived.JoinedCond
import Derived.Deep.CondSized
namespace Go.Proofs.YtofgbclopbmlcaaGreat.saveTapes
open Go.ChangeShapes Go.WideShapes Go.ChangeAt Go.RowKit Go.Fw
set_option linter.unusedVariables false
theorem own : ownKnob Tryz.prog.godebug = none := by kernel_rfl
theorem laid : laidOutB Tryz.prog = true := by kernel_rfl
theorem bulk (H : Type) : BulkLaw (Rows.uptoBulk (H := H)) (Rows.uptoBulkAll (H := H)) where
  cons := fun d r => Nat.le_of_eq (by rw [Rows.uptoBulkAll])
  one := fun d => by
    cases d with
    | lit l => cases l <;> simp [Rows.uptoBulk]
    | _ => simp [Rows.uptoBulk]
  sl := fun e s => by simp only [Rows.uptoBulk]; omega
  ag := fun p => by simp only [Rows.uptoBulk]; omega
  st := fun b => by simp [Rows.uptoBulk]
set_option maxRecDepth 100000 in
theorem lifted (os : Os) (started : os.Started) (H : Type) (enc : TypeId × Value → H) (F : Stop.Interp) :
    ReturnsInHanded {} Tryz.checked os 9 .any ((Rows.OpenSpec.upto Rows.saveTapesSpec).pre6 enc Tryz.prog Tryz.f9 Rows.saveTapesUptoRow.domain false) (((Rows.OpenSpec.upto Rows.saveTapesSpec).at F).post enc Tryz.prog Tryz.f9 false true false false) := by
  refine returnsInHanded_of_cond_sized (C := Tryz.checked) (s := Rows.OpenSpec.upto Rows.saveTapesSpec) (k := Rows.uptoSmall) rfl own started (by kernel_rfl) Tryz.func9
    (OpenSpec.witness (enc := enc) (C := Tryz.checked) (s := Rows.OpenSpec.upto Rows.saveTapesSpec) (k := Rows.uptoSmall) rfl false ⟨#[], #[.agg #[.string ByteArray.empty, .string ByteArray.empty, .slice none 0 0, .slice none 0 0, .slice none 0 0, .slice none 0 0, .slice none 0 0, .slice none 0 0], .agg #[.int .i64 0, .int .i64 0, .int .i64 0, .int .i64 0, .int .i64 0, .int .i64 0, .int .i64 0, .int .i64 0, .int .i64 0, .int .i64 0, .int .i64 0, .int .i64 0, .bool false, .slice none 0 0, .int .i64 0, .int .i64 0, .int .i64 0], .slice none 0 0, .int .i64 0, .slice none 0 0], []⟩ 8 (by kernel_rfl) (by kernel_rfl) (by kernel_rfl)
      (x := ([.agg [.lit (.string []), .agg [.lit (.string []), .nil, .nil, .nil, .nil], .nil, .nil], .agg [.lit (.int .i64 0), .agg [.agg [.lit (.int .i64 0), .lit (.int .i64 0), .lit (.int .i64 0), .lit (.int .i64 0), .lit (.int .i64 0), .lit (.int .i64 0), .lit (.int .i64 0), .lit (.int .i64 0), .lit (.int .i64 0)], .lit (.int .i64 0), .lit (.int .i64 0), .lit (.bool false)], .nil, .agg [.lit (.int .i64 0), .lit (.int .i64 0), .lit (.int .i64 0)]], .nil, .lit (.int .i64 0), .nil], [], [])) (by kernel_rfl) rfl (by kernel_rfl)) ?_
  intro W base args ds gs before hval0 hW hcnd hk hsz0 _
  have hW' := hW
  obtain ⟨p, q, hA0, hV, rfl, hfz, hnd⟩ := hW
  obtain ⟨rfl, rfl⟩ := trodVars_none hV
  have hk' : Rows.uptoBulkAll (ds ++ []) ≤ 1048576 := of_decide_eq_true hk
  rw [List.append_nil] at hk'
  have hA : DataW.TrodAll enc Tryz.prog W 0 (fun _ => true) true Tryz.f9.params.toList args.toList ds p := hA0
  rw [Tryz.params9] at hA
  obtain ⟨v0, vs0, d0, ds0, p0, q0, hargs, rfl, rfl, h0, r0⟩ := trodAll_cons hA
  obtain ⟨v1, vs1, d1, ds1, p1, q1, rfl, rfl, rfl, h1, r1⟩ := trodAll_cons r0
  obtain ⟨v2, vs2, d2, ds2, p2, q2, rfl, rfl, rfl, h2, r2⟩ := trodAll_cons r1
  obtain ⟨v3, vs3, d3, ds3, p3, q3, rfl, rfl, rfl, h3, r3⟩ := trodAll_cons r2
  obtain ⟨v4, vs4, d4, ds4, p4, q4, rfl, rfl, rfl, h4, r4⟩ := trodAll_cons r3
  obtain ⟨rfl, rfl, rfl⟩ := trodAll_nil r4
  clear hA
  refine (PSpec.law_upto (s := QFj) QIm (bulk H) hk' (m := 9) (ts := Tryz.f9.params.toList) (by kernel_rfl) rfl (by kernel_rfl) laid (fun j t v h1 h2 => hval0 j t v (by rw [← Array.getElem?_toList]; exact h1) (by rw [← Array.getElem?_toList]; exact h2)) hsz0 hA0 fun xs hw hb => ⟨_, rfl, fun z hz => by cases hz; exact QE7 xs hw hb⟩).mono fun e W' ⟨he, bel, back⟩ => ?_
  subst he
  exact ⟨_, rfl, _, _, _, [], _, [], hW', trodAll_mk1 (shut_bool Tryz.underlying4 _), back, rfl, bel.frame _, fun h => by cases h⟩
theorem j1 : (Rows.saveTapesUptoRow.inPlace == Tryz.prog.inPlace 9) = true := by kernel_rfl
theorem j2 : (Rows.saveTapesUptoRow.unfollowed == Tryz.prog.unfollowed 9) = true := by kernel_rfl
theorem j3 : (Rows.saveTapesUptoRow.recurses == Tryz.prog.recurses 9) = true := by kernel_rfl
theorem j4 : (Rows.saveTapesUptoRow.named == Tryz.prog.varsNamed 9) = true := by kernel_rfl
theorem jc : joinedFacts Tryz.prog 9 Tryz.f9 (Rows.OpenSpec.upto Rows.saveTapesSpec).bare Rows.saveTapesUptoRow = true := by
  unfold joinedFacts
  rw [j1, j2, j3, j4]
  kernel_rfl
theorem over : Rows.saveTapesUptoRow.holds Tryz.pinned (Rows.OpenSpec.upto Rows.saveTapesSpec) :=
  OpenClaim.holds_of_cond 9 Tryz.f9 rfl rfl rfl rfl rfl rfl rfl ⟨rfl, rfl, rfl, rfl, rfl⟩ rfl rfl rfl rfl rfl (by kernel_rfl) Tryz.func9 jc
    (of_decide_eq_true (by kernel_rfl)) (by unfold Func.isWrapper; first | (rw [if_pos (by decide +kernel)]; kernel_rfl) | (rw [if_neg (by decide +kernel)]; exact ⟨rfl, rfl⟩))
    (fun os started H enc _ F => lifted os started H enc F)
theorem proved : Rows.SaveTapesUptoSaid := over
#print axioms proved
end Go.Proofs.YtofgbclopbmlcaaGreat.saveTapes
namespace Go.Proofs.YtofgbclopbmlcaaGreat
/-- The row, under a short name, for the claim. -/
theorem saveTapesUpto_holds : Rows.SaveTapesUptoSaid := saveTapes.proved
end Go.Proofs.YtofgbclopbmlcaaGreat
