/- The chip with two voices, by the document: how long it rests. -/
import Derived.Test.YthpijepbbpcjeaaSound4
namespace Go.Proofs.Ythpijepbbpcjeaa
open Go.Fw
set_option linter.unusedVariables false
set_option linter.unusedSimpArgs false
set_option maxRecDepth 100000

theorem mul_pos2 {v r : Int} (hv : 0 ≤ v ∧ v < 16) (hr : 0 ≤ r ∧ r < 256) : (0 < v * r) = (0 < r ∧ 0 < v) := by
  apply propext
  constructor
  · intro h
    by_cases h1 : v = 0
    · rw [h1, Int.zero_mul] at h; omega
    · by_cases h2 : r = 0
      · rw [h2, Int.mul_zero] at h; omega
      · omega
  · rintro ⟨h1, h2⟩
    exact Int.mul_pos h2 h1
theorem mul_in2 {v r : Int} (hv : 0 ≤ v ∧ v < 16) (hr : 0 ≤ r ∧ r < 256) : 0 ≤ v * r ∧ v * r < 4096 := by
  refine ⟨Int.mul_nonneg hv.1 hr.1, ?_⟩
  have h1 : v * r ≤ 15 * r := Int.mul_le_mul_of_nonneg_right (by omega) hr.1
  omega
theorem decrec_ite {p : Prop} (a b : Int) (i : Decidable p) : (Decidable.rec (motive := fun _ => Int) (fun _ => a) (fun _ => b) i) = if p then b else a := by cases i <;> simp [*]
theorem quiet_min {p v r c f w : Int} : quietV [p, v, r, c, f, w] = min (if p > 0 then max 1 (p - c) - 1 else 100000) (if r > 0 ∧ v > 0 then max 1 (r * 64 - w) - 1 else 100000) := rfl
def orestsS : PSpec := ⟨[gC, gD], fun (c, d, _) => (some (c = sndC), I (onextF d.1), [])⟩
set_option maxHeartbeats 8000000 in
theorem orests_ok : Good Try.prog 35 orestsS.spec := by
  have hT := tab_ok (fs := [(15, oformedS.spec)]) tree_ok
  have hP : SpecsOk Try.prog (tab tree [(15, oformedS.spec)]) := specs_cons oformed_ok specs_nil
  refine orestsS.good (fn := Try.f35) hT hP Try.func35 (by kernel_rfl) rfl fun (c : Cv) (d : Dv) hp => ?_
  have hp : c = sndC := hp _ rfl
  subst hp
  obtain ⟨N, M⟩ := d
  repeat' first
    | (refine Go.mk ?_; conv => whnf)
    | refine Need.go ?_ ?_
    | refine NilG.go (fun _ => ?_) (fun _ => ?_)
    | refine Br.dec (fun _ => ?_) (fun _ => ?_)
    | refine Br.go (fun _ => ?_) (fun _ => ?_)
    | refine draw_go hT hP mixed ?_
    | refine round_go hT hP ?_
  all_goals first
    | exact rfl
    | exact of_decide_eq_true rfl
    | skip
  obtain ⟨A, hA⟩ : ∃ A, A = vo N 0 := ⟨_, rfl⟩
  obtain ⟨B, hB⟩ : ∃ B, B = vo N 6 := ⟨_, rfl⟩
  have oA : vOk A := by rw [hA]; exact vo_ok N 0
  have oB : vOk B := by rw [hB]; exact vo_ok N 6
  refine loop_go hT hP (X := Int × Int) (fun (i, o) => St.mk [.dead, .dead, .dead, .dead, .dead, .dead, I o, .dead, .dead, .dead, .dead, .dead, .dead, .dead, .dead, .dead, .dead, .dead, .dead, .dead, .dead, .dead, .dead, .dead, .dead, .dead, .dead, .dead, .dead, .dead, .dead, .dead, .dead, .dead, .dead, .dead, .dead, .dead, .dead, .dead, .dead, .dead, .dead, .dead, .dead, .dead, .dead, .dead, .dead, .dead, .dead, .dead, .dead, .dead, .dead, .dead, .dead, .dead, .dead, .dead, .dead, .dead, .dead, .dead, .dead, .dead, .dead, .dead, .dead, .dead, .dead, .dead, .dead, .dead, .dead, .dead, .dead, .dead, .dead, .cell (.svar 1 0 2), I 2, I i, .dead, .dead, .dead, .dead, .dead, .dead, .dead, .dead, .dead, .dead, .dead, .dead, .dead, .dead, .dead, .dead, .dead, .dead, .dead, .dead, .dead, .dead, .dead, .dead, .dead, .dead, .dead, .dead, .dead, .dead, .dead, .dead, .dead, .dead, .dead, .dead, .dead, .dead, .dead, .dead, .dead, .dead, .dead, .dead, .dead, .dead, .dead, .dead, .dead, .dead, .dead] [some (.arr (.int .i64) (A ++ B)), some (.var [.sub 0 0 6, .sub 0 6 6])])
    (fun (i, o) => (i = 0 ∧ o = 100000) ∨ (i = 1 ∧ o = quietV A) ∨ (i = 2 ∧ o = min (quietV A) (quietV B))) (fun (i, _) => (2 - i).toNat) (0, 100000) (Le.mk [] [2, 3] rfl rfl ?_ ?_) ?_ fun (i, o) hi => ?_
  · show [some (Blk.arr (.int .i64) (vo N 0 ++ vo N 6)), some (Blk.var [.sub 0 0 6, .sub 0 6 6])] = [some (Blk.arr (.int .i64) (A ++ B)), some (Blk.var [.sub 0 0 6, .sub 0 6 6])]
    rw [hA, hB]
  · repeat' first | exact trivial | exact ⟨rfl, rfl⟩ | refine And.intro ?_ ?_
  · exact .inl ⟨rfl, rfl⟩
  rcases hi with ⟨rfl, ho⟩ | ⟨rfl, ho⟩ | ⟨rfl, ho⟩
  · have hI : ∀ z : Int × Int, z.1 = 1 → z.2 = quietV A → (z.1 = 0 ∧ z.2 = 100000) ∨ (z.1 = 1 ∧ z.2 = quietV A) ∨ (z.1 = 2 ∧ z.2 = min (quietV A) (quietV B)) := by
      intro z h1 h2
      rw [h1, h2]
      exact .inr (.inl ⟨rfl, rfl⟩)
    
    clear hA hB
    cases oA with
    | mk hp hv hr hc hf hw =>
    cases oB with
    | mk hp' hv' hr' hc' hf' hw' =>
    rename_i p v r c f w p' v' r' c' f' w'
    
    
    subst ho
    have e0 := @quiet_min p v r c f w
    repeat' first
      | (refine Go.mk ?_; conv => whnf)
      | refine Need.go ?_ ?_
      | refine NilG.go (fun _ => ?_) (fun _ => ?_)
      | refine Br.dec (fun _ => ?_) (fun _ => ?_)
      | refine Br.go (fun _ => ?_) (fun _ => ?_)
      | refine draw_go hT hP mixed ?_
      | refine round_go hT hP ?_
    all_goals first
      | exact of_decide_eq_true rfl
      | (exfalso; rename_i h; revert h; decide)
      | skip
    all_goals
      apply Exists.intro (_, _)
      refine And.intro ?_ (And.intro ?_ (Le.mk [] [0, 1] rfl rfl ?hh ?ht))
      case hh => exact rfl
      case ht => repeat' first | exact trivial | exact ⟨rfl, rfl⟩ | refine And.intro ?_ ?_
    all_goals first
      | (show (2 - IntKind.i64.wrap (0 + 1)).toNat < (2 - (0 : Int)).toNat
         decide)
      | skip
    all_goals
      refine hI (IntKind.i64.wrap (0 + 1), _) rfl ?_
      have mp := mul_pos2 hv hr
      have mi := mul_in2 hv hr
      have ew1 : IntKind.i64.wrap (p - c) = p - c := w64 (by omega) (by omega)
      have ew2 : IntKind.i64.wrap (p - c - 1) = p - c - 1 := w64 (by omega) (by omega)
      have ew3 : IntKind.i64.wrap (v * r) = v * r := w64 (by omega) (by omega)
      have ew4 : IntKind.i64.wrap (64 * r) = r * 64 := by rw [w64 (by omega) (by omega), Int.mul_comm]
      have ew5 : IntKind.i64.wrap (r * 64 - w) = r * 64 - w := w64 (by omega) (by omega)
      have ew6 : IntKind.i64.wrap (r * 64 - w - 1) = r * 64 - w - 1 := w64 (by omega) (by omega)
      clear hT hP hI mi
      simp [ew1, ew2, ew3, ew4, ew5, ew6, mp, decrec_ite, imax_eq, imin_eq] at *
      first | omega | (simp [*]; done) | (simp [*]; omega) | skip
  · have hI : ∀ z : Int × Int, z.1 = 2 → z.2 = min (quietV A) (quietV B) → (z.1 = 0 ∧ z.2 = 100000) ∨ (z.1 = 1 ∧ z.2 = quietV A) ∨ (z.1 = 2 ∧ z.2 = min (quietV A) (quietV B)) := by
      intro z h1 h2
      rw [h1, h2]
      exact .inr (.inr ⟨rfl, rfl⟩)
    have hq1 := quietV_in oA
    clear hA hB
    cases oA with
    | mk hp hv hr hc hf hw =>
    cases oB with
    | mk hp' hv' hr' hc' hf' hw' =>
    rename_i p' v' r' c' f' w' p v r c f w
    rw [← ho] at hq1
    have e0 := @quiet_min p v r c f w
    repeat' first
      | (refine Go.mk ?_; conv => whnf)
      | refine Need.go ?_ ?_
      | refine NilG.go (fun _ => ?_) (fun _ => ?_)
      | refine Br.dec (fun _ => ?_) (fun _ => ?_)
      | refine Br.go (fun _ => ?_) (fun _ => ?_)
      | refine draw_go hT hP mixed ?_
      | refine round_go hT hP ?_
    all_goals first
      | exact of_decide_eq_true rfl
      | (exfalso; rename_i h; revert h; decide)
      | skip
    all_goals
      apply Exists.intro (_, _)
      refine And.intro ?_ (And.intro ?_ (Le.mk [] [0, 1] rfl rfl ?hh ?ht))
      case hh => exact rfl
      case ht => repeat' first | exact trivial | exact ⟨rfl, rfl⟩ | refine And.intro ?_ ?_
    all_goals first
      | (show (2 - IntKind.i64.wrap (1 + 1)).toNat < (2 - (1 : Int)).toNat
         decide)
      | skip
    all_goals
      refine hI (IntKind.i64.wrap (1 + 1), _) rfl ?_
      rw [← ho]
      clear ho
      have mp := mul_pos2 hv' hr'
      have mi := mul_in2 hv' hr'
      have ew1 : IntKind.i64.wrap (p - c) = p - c := w64 (by omega) (by omega)
      have ew2 : IntKind.i64.wrap (p - c - 1) = p - c - 1 := w64 (by omega) (by omega)
      have ew3 : IntKind.i64.wrap (v * r) = v * r := w64 (by omega) (by omega)
      have ew4 : IntKind.i64.wrap (64 * r) = r * 64 := by rw [w64 (by omega) (by omega), Int.mul_comm]
      have ew5 : IntKind.i64.wrap (r * 64 - w) = r * 64 - w := w64 (by omega) (by omega)
      have ew6 : IntKind.i64.wrap (r * 64 - w - 1) = r * 64 - w - 1 := w64 (by omega) (by omega)
      clear hT hP hI mi
      simp [ew1, ew2, ew3, ew4, ew5, ew6, mp, decrec_ite, imax_eq, imin_eq] at *
      first | omega | (simp [*]; done) | (simp [*]; omega) | skip
  · subst ho
    repeat' first
      | (refine Go.mk ?_; conv => whnf)
      | refine Need.go ?_ ?_
      | refine NilG.go (fun _ => ?_) (fun _ => ?_)
      | refine Br.dec (fun _ => ?_) (fun _ => ?_)
      | refine Br.go (fun _ => ?_) (fun _ => ?_)
      | refine draw_go hT hP mixed ?_
      | refine round_go hT hP ?_
    all_goals first
      | exact of_decide_eq_true rfl
      | (exfalso; rename_i h; revert h; decide)
      | (refine .mk [] [] _ rfl rfl rfl rfl rfl rfl (imm_int ?_)
         rw [hA, hB]; rfl)
      | skip

end Go.Proofs.Ythpijepbbpcjeaa
