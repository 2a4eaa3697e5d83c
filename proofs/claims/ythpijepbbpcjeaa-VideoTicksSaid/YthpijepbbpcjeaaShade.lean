/- bakeref1.Shade. -/
import Derived.Test.YthpijepbbpcjeaaVideoLaw
namespace Go.Proofs.Ythpijepbbpcjeaa
open Go.Fw
set_option linter.unusedVariables false
set_option linter.unusedSimpArgs false
set_option maxRecDepth 100000

theorem tup_ib2 {a c : Int} {b d : Bool} (h1 : a = c) (h2 : b = d) : AV.tup [I1 a, .c (bv b)] = AV.tup [I1 c, .c (bv d)] := by rw [h1, h2]
def shadeS : PSpec := ⟨[gb, gi], fun (m, pos, _) => (some (List.length m = 32 ∧ u8s m ∧ 0 ≤ pos ∧ pos < 2560), .tup [I1 (colorF m pos), .c (bv (hitB m pos))], [])⟩
theorem shade_ok : Good Try.prog 83 shadeS.spec := by
  have hT := tab_ok (fs := []) tree_ok
  have hP : SpecsOk Try.prog (tab tree []) := specs_nil
  refine shadeS.good (fn := Try.f83) hT hP Try.func83 (by kernel_rfl) rfl fun (m : List Int) (pos : Int) hp => ?_
  obtain ⟨hm, hu, hp0, hp1⟩ : m.length = 32 ∧ u8s m ∧ 0 ≤ pos ∧ pos < 2560 := hp _ rfl
  have hb := u8s_get hu
  have eq64 : IntKind.i64.wrap (Int.tdiv pos 64) = pos / 64 := by rw [Int.tdiv_eq_ediv_of_nonneg hp0, w64 (by omega) (by omega)]
  have er64 : Int.tmod pos 64 = pos % 64 := Int.tmod_eq_emod_of_nonneg hp0
  have ecell : IntKind.i64.wrap (IntKind.i64.wrap (8 + IntKind.i64.wrap (IntKind.i64.wrap (Int.tdiv (IntKind.i64.wrap (Int.tdiv pos 64)) 8) * 6)) + IntKind.i64.wrap (Int.tdiv (Int.tmod pos 64) 8)) = 8 + pos / 64 / 8 * 6 + pos % 64 / 8 := by
    rw [eq64, er64, Int.tdiv_eq_ediv_of_nonneg (show 0 ≤ pos / 64 by omega), Int.tdiv_eq_ediv_of_nonneg (show 0 ≤ pos % 64 by omega), w64 (x := pos / 64 / 8) (by omega) (by omega), w64 (x := pos / 64 / 8 * 6) (by omega) (by omega),
      w64 (x := 8 + pos / 64 / 8 * 6) (by omega) (by omega), w64 (x := pos % 64 / 8) (by omega) (by omega), w64 (by omega) (by omega)]
  repeat' first
    | (refine Go.mk ?_; conv => whnf)
    | refine Need.go ?_ ?_
    | refine NilG.go (fun _ => ?_) (fun _ => ?_)
    | refine Br.dec (fun _ => ?_) (fun _ => ?_)
    | refine Br.go (fun _ => ?_) (fun _ => ?_)
    | refine draw_go hT hP mixed ?_
    | refine round_go hT hP ?_
  all_goals first
    | decide
    | (rw [hm]; exact of_decide_eq_true rfl)
    | (rw [ecell, hm]; exact ⟨by omega, by omega⟩)
    | skip
  · rename_i h
    have h : Int.tmod pos 64 ≥ 48 := h
    rw [er64] at h
    have hv : visB pos = false := by unfold visB; rw [decide_eq_false (by omega : ¬ pos % 64 < 48)]; rfl
    refine .mk [] [] _ rfl rfl rfl rfl rfl rfl (tup_ib2 ?_ ?_)
    · show Int.tmod (IntKind.i64.wrap (bA m 0)) 16 = colorF m pos
      have h0 := hb 0
      rw [colorF, hv, if_neg (by simp), w64 (by omega) (by omega), Int.tmod_eq_emod_of_nonneg h0.1]
    · show false = hitB m pos
      rw [hitB, hv]; rfl
  · rename_i h1 h
    have h : IntKind.i64.wrap (Int.tdiv pos 64) ≥ 32 := h
    rw [eq64] at h
    have hv : visB pos = false := by unfold visB; rw [decide_eq_false (by omega : ¬ pos / 64 < 32), Bool.and_false]
    refine .mk [] [] _ rfl rfl rfl rfl rfl rfl (tup_ib2 ?_ ?_)
    · show Int.tmod (IntKind.i64.wrap (bA m 0)) 16 = colorF m pos
      have h0 := hb 0
      rw [colorF, hv, if_neg (by simp), w64 (by omega) (by omega), Int.tmod_eq_emod_of_nonneg h0.1]
    · show false = hitB m pos
      rw [hitB, hv]; rfl
  rename_i h1 h2
  have h1 : ¬ Int.tmod pos 64 ≥ 48 := h1
  have h2 : ¬ IntKind.i64.wrap (Int.tdiv pos 64) ≥ 32 := h2
  rw [er64] at h1
  rw [eq64] at h2
  have hv : visB pos = true := by unfold visB; rw [decide_eq_true (by omega : pos % 64 < 48), decide_eq_true (by omega : pos / 64 < 32)]; rfl
  have ecv : Int.tmod (IntKind.i64.wrap (bA m (IntKind.i64.wrap (IntKind.i64.wrap (8 + IntKind.i64.wrap (IntKind.i64.wrap (Int.tdiv (IntKind.i64.wrap (Int.tdiv pos 64)) 8) * 6)) + IntKind.i64.wrap (Int.tdiv (Int.tmod pos 64) 8))).toNat)) 16 = cellF m pos := by
    rw [ecell]
    have h0 := hb (8 + pos / 64 / 8 * 6 + pos % 64 / 8).toNat
    rw [w64 (by omega) (by omega), Int.tmod_eq_emod_of_nonneg h0.1]; rfl
  refine loop_go hT hP (X := Int) (fun i => St.mk [.cell (.ro (.int .u8) m), .dead, .dead, .dead, .dead, .dead, I (IntKind.i64.wrap (Int.tdiv pos 64)), I (Int.tmod pos 64), I (Int.tmod (IntKind.i64.wrap (bA m (IntKind.i64.wrap (IntKind.i64.wrap (8 + IntKind.i64.wrap (IntKind.i64.wrap (Int.tdiv (IntKind.i64.wrap (Int.tdiv pos 64)) 8) * 6)) + IntKind.i64.wrap (Int.tdiv (Int.tmod pos 64) 8))).toNat)) 16), .dead, .dead, .dead, .dead, .dead, .dead, .dead, .dead, .dead, .dead, .dead, .dead, .dead, .dead, .dead, .dead, .dead, .dead, .dead, .dead, .dead, .dead, .dead, .dead, .dead, .dead, .dead, .dead, I i, .dead, .dead, .dead, .dead, .dead, .dead, .dead, .dead, .dead, .dead, .dead, .dead, .dead, .dead, .dead, .dead, .dead, .dead, .dead, .dead, .dead, .dead, .dead, .dead, .dead, .dead, .dead, .dead, .dead, .dead, .dead, .dead, .dead, .dead, .dead, .dead, .dead, .dead, .dead, .dead, .dead, .dead, .dead, .dead] [])
    (fun i => ∃ k : Nat, i = k ∧ k ≤ 8 ∧ ∀ j, j < k → shadeB m pos j = false) (fun i => (8 - i).toNat) 0 (Le.mk [] [] rfl rfl ?_ ?_) ?_ fun i hi => ?_
  · exact rfl
  · repeat' first | exact trivial | exact ⟨rfl, rfl⟩ | refine And.intro ?_ ?_
  · exact ⟨0, rfl, by omega, fun j h => by omega⟩
  obtain ⟨k, rfl, hk, hno⟩ := hi
  have hb1 := hb 1
  have hb2 := hb 2
  have hb3 := hb 3
  have hb4 := hb 4
  have w1 : IntKind.i64.wrap (IntKind.i64.wrap (bA m 1) + k) = bA m 1 + k := by rw [w64 (x := bA m 1) (by omega) (by omega), w64 (by omega) (by omega)]
  have w2 : IntKind.i64.wrap (bA m 2) = bA m 2 := w64 (by omega) (by omega)
  have w3 : IntKind.i64.wrap (bA m 2 + 8) = bA m 2 + 8 := w64 (by omega) (by omega)
  repeat' first
    | (refine Go.mk ?_; conv => whnf)
    | refine Need.go ?_ ?_
    | refine NilG.go (fun _ => ?_) (fun _ => ?_)
    | refine Br.dec (fun _ => ?_) (fun _ => ?_)
    | refine Br.go (fun _ => ?_) (fun _ => ?_)
    | refine draw_go hT hP mixed ?_
    | refine round_go hT hP ?_
  all_goals first
    | decide
    | (rw [hm]; exact of_decide_eq_true rfl)
    | exact Int.natCast_nonneg _
    | skip
  · rename_i hlt g1 g2 g3 g4
    have g1 : Int.tmod pos 64 = IntKind.i64.wrap (IntKind.i64.wrap (bA m 1) + (k : Int)) := g1
    rw [er64, w1] at g1
    have g2 : IntKind.i64.wrap (Int.tdiv pos 64) ≥ IntKind.i64.wrap (bA m 2) := g2
    rw [eq64, w2] at g2
    have g3 : IntKind.i64.wrap (Int.tdiv pos 64) < IntKind.i64.wrap (IntKind.i64.wrap (bA m 2) + 8) := g3
    rw [eq64, w2, w3] at g3
    have g4 : shl .u8 (bA m 4) (k : Int) ≥ 128 := g4
    rw [byte_bitI hb4 (by omega)] at g4
    have hsp : spriteB m pos = true := sprite_yes (i := k) (by omega) (by
      unfold shadeB
      simp only [Bool.and_eq_true, decide_eq_true_eq]
      exact ⟨g1, ⟨g2, g3⟩, g4⟩)
    refine .mk [] [] _ rfl rfl rfl rfl rfl rfl (tup_ib2 ?_ ?_)
    · show Int.tmod (IntKind.i64.wrap (bA m 3)) 16 = colorF m pos
      rw [colorF, hv, if_pos rfl, hsp, if_pos rfl, w64 (by omega) (by omega), Int.tmod_eq_emod_of_nonneg hb3.1]
    · show decide (Int.tmod (IntKind.i64.wrap (bA m (IntKind.i64.wrap (IntKind.i64.wrap (8 + IntKind.i64.wrap (IntKind.i64.wrap (Int.tdiv (IntKind.i64.wrap (Int.tdiv pos 64)) 8) * 6)) + IntKind.i64.wrap (Int.tdiv (Int.tmod pos 64) 8))).toNat)) 16 > 0) = hitB m pos
      rw [hitB, hv, hsp, ecv]
      have h0 := cellF_in m pos
      show decide (cellF m pos > 0) = decide (cellF m pos ≠ 0)
      congr 1
      apply propext
      omega
  · rename_i hlt g1 g2 g3 g4
    have g1 : Int.tmod pos 64 = IntKind.i64.wrap (IntKind.i64.wrap (bA m 1) + (k : Int)) := g1
    rw [er64, w1] at g1
    have g2 : IntKind.i64.wrap (Int.tdiv pos 64) ≥ IntKind.i64.wrap (bA m 2) := g2
    rw [eq64, w2] at g2
    have g3 : IntKind.i64.wrap (Int.tdiv pos 64) < IntKind.i64.wrap (IntKind.i64.wrap (bA m 2) + 8) := g3
    rw [eq64, w2, w3] at g3
    have g4 : ¬ shl .u8 (bA m 4) (k : Int) ≥ 128 := g4
    rw [byte_bitI hb4 (by omega)] at g4
    have e : IntKind.i64.wrap ((k : Int) + 1) = ((k + 1 : Nat) : Int) := by rw [w64 (by omega) (by omega)]; omega
    have hsh : shadeB m pos k = false := by
      cases hs : shadeB m pos k with
      | false => rfl
      | true =>
        exfalso
        unfold shadeB at hs
        simp only [Bool.and_eq_true, decide_eq_true_eq] at hs
        obtain ⟨s1, ⟨s2, s3⟩, s4⟩ := hs
        first | exact g4 s4 | omega
    apply Exists.intro _
    refine And.intro ?_ (And.intro ?_ (Le.mk [] [] rfl rfl ?hh ?ht))
    case hh => exact rfl
    case ht => repeat' first | exact trivial | exact ⟨rfl, rfl⟩ | refine And.intro ?_ ?_
    · refine ⟨k + 1, e, by omega, fun j hj => ?_⟩
      by_cases hjk : j = k
      · rw [hjk]; exact hsh
      · exact hno j (by omega)
    · show (8 - IntKind.i64.wrap ((k : Int) + 1)).toNat < (8 - (k : Int)).toNat
      rw [e]; omega
  · rename_i hlt g1 g2 g3
    have g1 : Int.tmod pos 64 = IntKind.i64.wrap (IntKind.i64.wrap (bA m 1) + (k : Int)) := g1
    rw [er64, w1] at g1
    have g2 : IntKind.i64.wrap (Int.tdiv pos 64) ≥ IntKind.i64.wrap (bA m 2) := g2
    rw [eq64, w2] at g2
    have g3 : ¬ IntKind.i64.wrap (Int.tdiv pos 64) < IntKind.i64.wrap (IntKind.i64.wrap (bA m 2) + 8) := g3
    rw [eq64, w2, w3] at g3
    have e : IntKind.i64.wrap ((k : Int) + 1) = ((k + 1 : Nat) : Int) := by rw [w64 (by omega) (by omega)]; omega
    have hsh : shadeB m pos k = false := by
      cases hs : shadeB m pos k with
      | false => rfl
      | true =>
        exfalso
        unfold shadeB at hs
        simp only [Bool.and_eq_true, decide_eq_true_eq] at hs
        obtain ⟨s1, ⟨s2, s3⟩, s4⟩ := hs
        first | exact g3 s4 | omega
    apply Exists.intro _
    refine And.intro ?_ (And.intro ?_ (Le.mk [] [] rfl rfl ?hh ?ht))
    case hh => exact rfl
    case ht => repeat' first | exact trivial | exact ⟨rfl, rfl⟩ | refine And.intro ?_ ?_
    · refine ⟨k + 1, e, by omega, fun j hj => ?_⟩
      by_cases hjk : j = k
      · rw [hjk]; exact hsh
      · exact hno j (by omega)
    · show (8 - IntKind.i64.wrap ((k : Int) + 1)).toNat < (8 - (k : Int)).toNat
      rw [e]; omega
  · rename_i hlt g1 g2
    have g1 : Int.tmod pos 64 = IntKind.i64.wrap (IntKind.i64.wrap (bA m 1) + (k : Int)) := g1
    rw [er64, w1] at g1
    have g2 : ¬ IntKind.i64.wrap (Int.tdiv pos 64) ≥ IntKind.i64.wrap (bA m 2) := g2
    rw [eq64, w2] at g2
    have e : IntKind.i64.wrap ((k : Int) + 1) = ((k + 1 : Nat) : Int) := by rw [w64 (by omega) (by omega)]; omega
    have hsh : shadeB m pos k = false := by
      cases hs : shadeB m pos k with
      | false => rfl
      | true =>
        exfalso
        unfold shadeB at hs
        simp only [Bool.and_eq_true, decide_eq_true_eq] at hs
        obtain ⟨s1, ⟨s2, s3⟩, s4⟩ := hs
        first | exact g2 s4 | omega
    apply Exists.intro _
    refine And.intro ?_ (And.intro ?_ (Le.mk [] [] rfl rfl ?hh ?ht))
    case hh => exact rfl
    case ht => repeat' first | exact trivial | exact ⟨rfl, rfl⟩ | refine And.intro ?_ ?_
    · refine ⟨k + 1, e, by omega, fun j hj => ?_⟩
      by_cases hjk : j = k
      · rw [hjk]; exact hsh
      · exact hno j (by omega)
    · show (8 - IntKind.i64.wrap ((k : Int) + 1)).toNat < (8 - (k : Int)).toNat
      rw [e]; omega
  · rename_i hlt g1
    have g1 : ¬ Int.tmod pos 64 = IntKind.i64.wrap (IntKind.i64.wrap (bA m 1) + (k : Int)) := g1
    rw [er64, w1] at g1
    have e : IntKind.i64.wrap ((k : Int) + 1) = ((k + 1 : Nat) : Int) := by rw [w64 (by omega) (by omega)]; omega
    have hsh : shadeB m pos k = false := by
      cases hs : shadeB m pos k with
      | false => rfl
      | true =>
        exfalso
        unfold shadeB at hs
        simp only [Bool.and_eq_true, decide_eq_true_eq] at hs
        obtain ⟨s1, ⟨s2, s3⟩, s4⟩ := hs
        first | exact g1 s4 | omega
    apply Exists.intro _
    refine And.intro ?_ (And.intro ?_ (Le.mk [] [] rfl rfl ?hh ?ht))
    case hh => exact rfl
    case ht => repeat' first | exact trivial | exact ⟨rfl, rfl⟩ | refine And.intro ?_ ?_
    · refine ⟨k + 1, e, by omega, fun j hj => ?_⟩
      by_cases hjk : j = k
      · rw [hjk]; exact hsh
      · exact hno j (by omega)
    · show (8 - IntKind.i64.wrap ((k : Int) + 1)).toNat < (8 - (k : Int)).toNat
      rw [e]; omega
  · rename_i hlt
    obtain rfl : k = 8 := by omega
    have hsp : spriteB m pos = false := sprite_no hno
    refine .mk [] [] _ rfl rfl rfl rfl rfl rfl (tup_ib2 ?_ ?_)
    · show Int.tmod (IntKind.i64.wrap (bA m (IntKind.i64.wrap (IntKind.i64.wrap (8 + IntKind.i64.wrap (IntKind.i64.wrap (Int.tdiv (IntKind.i64.wrap (Int.tdiv pos 64)) 8) * 6)) + IntKind.i64.wrap (Int.tdiv (Int.tmod pos 64) 8))).toNat)) 16 = colorF m pos
      rw [colorF, hv, if_pos rfl, hsp, if_neg (by simp), ecv]
    · show false = hitB m pos
      rw [hitB, hv, hsp]; rfl

end Go.Proofs.Ythpijepbbpcjeaa
