/- The chip that draws: the functions of package video that look at a picture. -/
import Derived.Test.YthpijepbbpcjeaaShade
namespace Go.Proofs.Ythpijepbbpcjeaa
open Go.Fw
set_option linter.unusedVariables false
set_option linter.unusedSimpArgs false
set_option maxRecDepth 100000

def visS : PSpec := ⟨[gi], fun (pos, _) => (some (0 ≤ pos ∧ pos < 2560), .cell (bv (visB pos)), [])⟩
theorem vis_ok : Good Try.prog 142 visS.spec := by
  have hT := tab_ok (fs := []) tree_ok
  have hP : SpecsOk Try.prog (tab tree []) := specs_nil
  refine visS.good (fn := Try.f142) hT hP Try.func142 (by kernel_rfl) rfl fun (pos : Int) hp => ?_
  have hp : 0 ≤ pos ∧ pos < 2560 := hp _ rfl
  have eq64 : IntKind.i64.wrap (Int.tdiv pos 64) = pos / 64 := by rw [Int.tdiv_eq_ediv_of_nonneg hp.1, w64 (by omega) (by omega)]
  have er64 : Int.tmod pos 64 = pos % 64 := Int.tmod_eq_emod_of_nonneg hp.1
  repeat' first
    | (refine Go.mk ?_; conv => whnf)
    | refine Need.go ?_ ?_
    | refine NilG.go (fun _ => ?_) (fun _ => ?_)
    | refine Br.dec (fun _ => ?_) (fun _ => ?_)
    | refine Br.go (fun _ => ?_) (fun _ => ?_)
    | refine draw_go hT hP mixed ?_
    | refine round_go hT hP ?_
  all_goals first
    | decide
    | (rename_i h
       have h : Int.tmod pos 64 < 48 := h
       rw [er64] at h
       refine .mk [] [] _ rfl rfl rfl rfl rfl rfl (imm_bool ?_)
       show decide (IntKind.i64.wrap (Int.tdiv pos 64) < 32) = (decide (pos % 64 < 48) && decide (pos / 64 < 32))
       rw [eq64, decide_eq_true h]; rfl)
    | (rename_i h
       have h : ¬ Int.tmod pos 64 < 48 := h
       rw [er64] at h
       refine .mk [] [] _ rfl rfl rfl rfl rfl rfl (imm_bool ?_)
       show false = (decide (pos % 64 < 48) && decide (pos / 64 < 32))
       rw [decide_eq_false h]; rfl)

def cellS : PSpec := ⟨[gb, gi], fun (m, pos, _) => (some (List.length m = 32 ∧ u8s m ∧ 0 ≤ pos ∧ pos < 2560 ∧ visB pos = true), I (cellF m pos), [])⟩
theorem cell_ok : Good Try.prog 144 cellS.spec := by
  have hT := tab_ok (fs := []) tree_ok
  have hP : SpecsOk Try.prog (tab tree []) := specs_nil
  refine cellS.good (fn := Try.f144) hT hP Try.func144 (by kernel_rfl) rfl fun (m : List Int) (pos : Int) hp => ?_
  obtain ⟨hm, hu, hp0, hp1, hv⟩ : m.length = 32 ∧ u8s m ∧ 0 ≤ pos ∧ pos < 2560 ∧ visB pos = true := hp _ rfl
  have hb := u8s_get hu
  unfold visB at hv
  simp only [Bool.and_eq_true, decide_eq_true_eq] at hv
  have ecell : IntKind.i64.wrap (IntKind.i64.wrap (8 + IntKind.i64.wrap (IntKind.i64.wrap (Int.tdiv (IntKind.i64.wrap (Int.tdiv pos 64)) 8) * 6)) + IntKind.i64.wrap (Int.tdiv (Int.tmod pos 64) 8)) = 8 + pos / 64 / 8 * 6 + pos % 64 / 8 := cell_at hp0 hp1
  repeat' first
    | (refine Go.mk ?_; conv => whnf)
    | refine Need.go ?_ ?_
    | refine NilG.go (fun _ => ?_) (fun _ => ?_)
    | refine Br.dec (fun _ => ?_) (fun _ => ?_)
    | refine Br.go (fun _ => ?_) (fun _ => ?_)
    | refine draw_go hT hP mixed ?_
    | refine round_go hT hP ?_
  all_goals first
    | decide
    | (rw [ecell, hm]; exact ⟨by omega, by omega⟩)
    | (refine .mk [] [] _ rfl rfl rfl rfl rfl rfl (imm_int ?_)
       show land .i64 (IntKind.i64.wrap (bA m (IntKind.i64.wrap (IntKind.i64.wrap (8 + IntKind.i64.wrap (IntKind.i64.wrap (Int.tdiv (IntKind.i64.wrap (Int.tdiv pos 64)) 8) * 6)) + IntKind.i64.wrap (Int.tdiv (Int.tmod pos 64) 8))).toNat)) 15 = cellF m pos
       rw [ecell, land15I (hb _)]; rfl)

def spriteS : PSpec := ⟨[gb, gi], fun (m, pos, _) => (some (List.length m = 32 ∧ u8s m ∧ 0 ≤ pos ∧ pos < 2560), .cell (bv (spriteB m pos)), [])⟩
theorem sprite_ok : Good Try.prog 143 spriteS.spec := by
  have hT := tab_ok (fs := []) tree_ok
  have hP : SpecsOk Try.prog (tab tree []) := specs_nil
  refine spriteS.good (fn := Try.f143) hT hP Try.func143 (by kernel_rfl) rfl fun (m : List Int) (pos : Int) hp => ?_
  obtain ⟨hm, hu, hp0, hp1⟩ : m.length = 32 ∧ u8s m ∧ 0 ≤ pos ∧ pos < 2560 := hp _ rfl
  have hb := u8s_get hu
  have hb1 := hb 1
  have hb2 := hb 2
  have eq64 : IntKind.i64.wrap (Int.tdiv pos 64) = pos / 64 := by rw [Int.tdiv_eq_ediv_of_nonneg hp0, w64 (by omega) (by omega)]
  have er64 : Int.tmod pos 64 = pos % 64 := Int.tmod_eq_emod_of_nonneg hp0
  have hx : IntKind.i64.wrap (Int.tmod pos 64 - IntKind.i64.wrap (bA m 1)) = pos % 64 - bA m 1 := by rw [er64, w64 (x := bA m 1) (by omega) (by omega), w64 (by omega) (by omega)]
  have hy : IntKind.i64.wrap (IntKind.i64.wrap (Int.tdiv pos 64) - IntKind.i64.wrap (bA m 2)) = pos / 64 - bA m 2 := by rw [eq64, w64 (x := bA m 2) (by omega) (by omega), w64 (by omega) (by omega)]
  repeat' first
    | (refine Go.mk ?_; conv => whnf)
    | refine Need.go ?_ ?_
    | refine NilG.go (fun _ => ?_) (fun _ => ?_)
    | refine Br.dec (fun _ => ?_) (fun _ => ?_)
    | refine Br.go (fun _ => ?_) (fun _ => ?_)
    | refine draw_go hT hP mixed ?_
    | refine round_go hT hP ?_
  all_goals first
    | decide
    | (rw [hm]; exact of_decide_eq_true rfl)
    | skip
  · rename_i g1 g2 g3 g4
    have g1 : IntKind.i64.wrap (Int.tmod pos 64 - IntKind.i64.wrap (bA m 1)) ≥ 0 := g1
    have g2 : IntKind.i64.wrap (Int.tmod pos 64 - IntKind.i64.wrap (bA m 1)) < 8 := g2
    have g3 : IntKind.i64.wrap (IntKind.i64.wrap (Int.tdiv pos 64) - IntKind.i64.wrap (bA m 2)) ≥ 0 := g3
    have g4 : IntKind.i64.wrap (IntKind.i64.wrap (Int.tdiv pos 64) - IntKind.i64.wrap (bA m 2)) < 8 := g4
    have hb4 := hb 4
    rw [hx] at g1 g2
    rw [hy] at g3 g4
    show 0 ≤ IntKind.i64.wrap (7 - IntKind.i64.wrap (Int.tmod pos 64 - IntKind.i64.wrap (bA m 1)))
    rw [hx, w64 (by omega) (by omega)]
    omega
  · rename_i g1 g2 g3 g4
    have g1 : IntKind.i64.wrap (Int.tmod pos 64 - IntKind.i64.wrap (bA m 1)) ≥ 0 := g1
    have g2 : IntKind.i64.wrap (Int.tmod pos 64 - IntKind.i64.wrap (bA m 1)) < 8 := g2
    have g3 : IntKind.i64.wrap (IntKind.i64.wrap (Int.tdiv pos 64) - IntKind.i64.wrap (bA m 2)) ≥ 0 := g3
    have g4 : IntKind.i64.wrap (IntKind.i64.wrap (Int.tdiv pos 64) - IntKind.i64.wrap (bA m 2)) < 8 := g4
    have hb4 := hb 4
    rw [hx] at g1 g2
    rw [hy] at g3 g4
    refine .mk [] [] _ rfl rfl rfl rfl rfl rfl (imm_bool ?_)
    show (land .u8 (shr .u8 (bA m 4) (IntKind.i64.wrap (7 - IntKind.i64.wrap (Int.tmod pos 64 - IntKind.i64.wrap (bA m 1))))) 1 == 1) = spriteB m pos
    rw [hx, w64 (x := 7 - (pos % 64 - bA m 1)) (by omega) (by omega)]
    have e : (7 - (pos % 64 - bA m 1)) = (((7 - (pos % 64 - bA m 1)).toNat : Nat) : Int) := by omega
    have hbit := byte_bitI2 hb4 (i := (7 - (pos % 64 - bA m 1)).toNat) (by omega)
    rw [← e] at hbit
    unfold spriteB
    rw [decide_eq_true (by omega : bA m 1 ≤ pos % 64), decide_eq_true (by omega : pos % 64 < bA m 1 + 8), decide_eq_true (by omega : bA m 2 ≤ pos / 64), decide_eq_true (by omega : pos / 64 < bA m 2 + 8)]
    show decide (land .u8 (shr .u8 (bA m 4) (7 - (pos % 64 - bA m 1))) 1 = 1) = decide (bA m 4 / 2 ^ (7 - (pos % 64 - bA m 1)).toNat % 2 = 1)
    congr 1
    exact propext hbit
  · rename_i h
    have h : ¬ IntKind.i64.wrap (IntKind.i64.wrap (Int.tdiv pos 64) - IntKind.i64.wrap (bA m 2)) < 8 := h
    refine .mk [] [] _ rfl rfl rfl rfl rfl rfl (imm_bool ?_)
    show false = spriteB m pos
    cases hs : spriteB m pos with
    | false => rfl
    | true =>
      exfalso
      unfold spriteB at hs
      simp only [Bool.and_eq_true, decide_eq_true_eq] at hs
      rw [hy] at h
      omega
  · rename_i h
    have h : ¬ IntKind.i64.wrap (IntKind.i64.wrap (Int.tdiv pos 64) - IntKind.i64.wrap (bA m 2)) ≥ 0 := h
    refine .mk [] [] _ rfl rfl rfl rfl rfl rfl (imm_bool ?_)
    show false = spriteB m pos
    cases hs : spriteB m pos with
    | false => rfl
    | true =>
      exfalso
      unfold spriteB at hs
      simp only [Bool.and_eq_true, decide_eq_true_eq] at hs
      rw [hy] at h
      omega
  · rename_i h
    have h : ¬ IntKind.i64.wrap (Int.tmod pos 64 - IntKind.i64.wrap (bA m 1)) < 8 := h
    refine .mk [] [] _ rfl rfl rfl rfl rfl rfl (imm_bool ?_)
    show false = spriteB m pos
    cases hs : spriteB m pos with
    | false => rfl
    | true =>
      exfalso
      unfold spriteB at hs
      simp only [Bool.and_eq_true, decide_eq_true_eq] at hs
      rw [hx] at h
      omega
  · rename_i h
    have h : ¬ IntKind.i64.wrap (Int.tmod pos 64 - IntKind.i64.wrap (bA m 1)) ≥ 0 := h
    refine .mk [] [] _ rfl rfl rfl rfl rfl rfl (imm_bool ?_)
    show false = spriteB m pos
    cases hs : spriteB m pos with
    | false => rfl
    | true =>
      exfalso
      unfold spriteB at hs
      simp only [Bool.and_eq_true, decide_eq_true_eq] at hs
      rw [hx] at h
      omega

theorem not_vis {b : Bool} (h : (!b) = false) : b = true := by cases b; cases h; rfl
theorem not_vis2 {b : Bool} (h : (!b) = true) : b = false := by cases b; rfl; cases h
def colorS : PSpec := ⟨[gb, gi], fun (m, pos, _) => (some (List.length m = 32 ∧ u8s m ∧ 0 ≤ pos ∧ pos < 2560), I (colorF m pos), [])⟩
theorem color_ok : Good Try.prog 97 colorS.spec := by
  have hT := tab_ok (fs := [(142, visS.spec), (143, spriteS.spec), (144, cellS.spec)]) tree_ok
  have hP : SpecsOk Try.prog (tab tree [(142, visS.spec), (143, spriteS.spec), (144, cellS.spec)]) := specs_cons vis_ok (specs_cons sprite_ok (specs_cons cell_ok specs_nil))
  refine colorS.good (fn := Try.f97) hT hP Try.func97 (by kernel_rfl) rfl fun (m : List Int) (pos : Int) hp => ?_
  obtain ⟨hm, hu, hp0, hp1⟩ : m.length = 32 ∧ u8s m ∧ 0 ≤ pos ∧ pos < 2560 := hp _ rfl
  have hb := u8s_get hu
  repeat' first
    | (refine Go.mk ?_; conv => whnf)
    | refine Need.go ?_ ?_
    | refine NilG.go (fun _ => ?_) (fun _ => ?_)
    | refine Br.dec (fun _ => ?_) (fun _ => ?_)
    | refine Br.go (fun _ => ?_) (fun _ => ?_)
    | refine draw_go hT hP mixed ?_
    | refine round_go hT hP ?_
  all_goals first
    | exact ⟨hp0, hp1⟩
    | exact ⟨hm, hu, hp0, hp1⟩
    | (rw [hm]; exact of_decide_eq_true rfl)
    | (rename_i h _; exact ⟨hm, hu, hp0, hp1, not_vis h⟩)
    | skip
  · rename_i h
    have hv := not_vis2 h
    refine .mk [] [] _ rfl rfl rfl rfl rfl rfl (imm_int ?_)
    show land .i64 (IntKind.i64.wrap (bA m 0)) 15 = colorF m pos
    rw [land15I (hb 0), colorF, hv]; rfl
  · rename_i h h2
    have hv := not_vis h
    have h2 : spriteB m pos = true := h2
    refine .mk [] [] _ rfl rfl rfl rfl rfl rfl (imm_int ?_)
    show land .i64 (IntKind.i64.wrap (bA m 3)) 15 = colorF m pos
    rw [land15I (hb 3), colorF, hv, h2]; rfl
  · rename_i h h2
    have hv := not_vis h
    have h2 : spriteB m pos = false := h2
    refine .mk [] [] _ rfl rfl rfl rfl rfl rfl (imm_int ?_)
    show cellF m pos = colorF m pos
    rw [colorF, hv, h2]; rfl

def hitsS : PSpec := ⟨[gb, gi], fun (m, pos, _) => (some (List.length m = 32 ∧ u8s m ∧ 0 ≤ pos ∧ pos < 2560), .cell (bv (hitB m pos)), [])⟩
theorem hits_ok : Good Try.prog 88 hitsS.spec := by
  have hT := tab_ok (fs := [(142, visS.spec), (143, spriteS.spec), (144, cellS.spec)]) tree_ok
  have hP : SpecsOk Try.prog (tab tree [(142, visS.spec), (143, spriteS.spec), (144, cellS.spec)]) := specs_cons vis_ok (specs_cons sprite_ok (specs_cons cell_ok specs_nil))
  refine hitsS.good (fn := Try.f88) hT hP Try.func88 (by kernel_rfl) rfl fun (m : List Int) (pos : Int) hp => ?_
  obtain ⟨hm, hu, hp0, hp1⟩ : m.length = 32 ∧ u8s m ∧ 0 ≤ pos ∧ pos < 2560 := hp _ rfl
  repeat' first
    | (refine Go.mk ?_; conv => whnf)
    | refine Need.go ?_ ?_
    | refine NilG.go (fun _ => ?_) (fun _ => ?_)
    | refine Br.dec (fun _ => ?_) (fun _ => ?_)
    | refine Br.go (fun _ => ?_) (fun _ => ?_)
    | refine draw_go hT hP mixed ?_
    | refine round_go hT hP ?_
  all_goals first
    | exact ⟨hp0, hp1⟩
    | exact ⟨hm, hu, hp0, hp1⟩
    | (rename_i h; exact ⟨hm, hu, hp0, hp1, h⟩)
    | (rename_i h _; exact ⟨hm, hu, hp0, hp1, h⟩)
    | skip
  · rename_i h h2
    have h : visB pos = true := h
    have h2 : spriteB m pos = true := h2
    refine .mk [] [] _ rfl rfl rfl rfl rfl rfl (imm_bool ?_)
    show _ = hitB m pos
    rw [hitB, h, h2]
    show (cellF m pos != 0) = decide (cellF m pos ≠ 0)
    by_cases e : cellF m pos = 0 <;> simp [e]
  · rename_i h h2
    have h : visB pos = true := h
    have h2 : spriteB m pos = false := h2
    refine .mk [] [] _ rfl rfl rfl rfl rfl rfl (imm_bool ?_)
    show _ = hitB m pos
    rw [hitB, h, h2]; rfl
  · rename_i h
    have h : visB pos = false := h
    refine .mk [] [] _ rfl rfl rfl rfl rfl rfl (imm_bool ?_)
    show _ = hitB m pos
    rw [hitB, h]; rfl

end Go.Proofs.Ythpijepbbpcjeaa
