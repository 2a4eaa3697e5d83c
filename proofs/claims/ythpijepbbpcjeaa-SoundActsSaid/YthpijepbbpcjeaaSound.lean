/- The chip with two voices: its state, the passing of cycles. -/
import Derived.Test.YthpijepbbpcjeaaSoundLaw
import Derived.Test.YthpijepbbpcjeaaGetPut
namespace Go.Proofs.Ythpijepbbpcjeaa
open Go.Fw
set_option linter.unusedVariables false
set_option linter.unusedSimpArgs false
set_option maxRecDepth 100000

def ofitS : PSpec := ⟨[gD], fun (d, _) => (none, .cell (.own 0), [.arr (.int .i64) (sndN d.1)])⟩
set_option maxHeartbeats 4000000 in
theorem ofit_ok : Good Try.prog 98 ofitS.spec := by
  have hT := tab_ok (fs := [(94, lowM.spec)]) tree_ok
  have hP : SpecsOk Try.prog (tab tree [(94, lowM.spec)]) := specs_cons lowM_ok specs_nil
  refine ofitS.good (fn := Try.f98) hT hP Try.func98 (by kernel_rfl) rfl fun (d : Dv) _ => ?_
  obtain ⟨N, M⟩ := d
  repeat' first
    | (refine Go.mk ?_; conv => whnf)
    | refine Need.go ?_ ?_
    | refine NilG.go (fun _ => ?_) (fun _ => ?_)
    | refine Br.dec (fun _ => ?_) (fun _ => ?_)
    | refine Br.go (fun _ => ?_) (fun _ => ?_)
    | refine loop_unroll 7 ?_
    | refine round_go hT hP ?_
  all_goals first
    | exact of_decide_eq_true rfl
    | exact .mk [] [1] _ rfl rfl rfl rfl rfl rfl rfl

def onewS : PSpec := ⟨[], fun _ => (none, devR, [.arr (.int .i64) (List.replicate 12 0)])⟩
theorem onew_ok : Good Try.prog 65 onewS.spec := by
  have hT := tab_ok (fs := []) tree_ok
  have hP : SpecsOk Try.prog (tab tree []) := specs_nil
  refine onewS.good (fn := Try.f65) hT hP Try.func65 (by kernel_rfl) rfl fun _ => ?_
  repeat' first
    | (refine Go.mk ?_; conv => whnf)
    | refine Need.go ?_ ?_
    | refine NilG.go (fun _ => ?_) (fun _ => ?_)
    | refine Br.dec (fun _ => ?_) (fun _ => ?_)
    | refine Br.go (fun _ => ?_) (fun _ => ?_)
    | refine draw_go hT hP mixed ?_
    | refine round_go hT hP ?_
  all_goals first
    | exact of_decide_eq_true rfl
    | exact .mk [] [1] _ rfl rfl rfl rfl rfl rfl rfl

def quietS : PSpec := ⟨[gl], fun (l, _) => (some (vOk l), I (quietV l), [])⟩
theorem quiet_ok : Good Try.prog 99 quietS.spec := by
  have hT := tab_ok (fs := []) tree_ok
  have hP : SpecsOk Try.prog (tab tree []) := specs_nil
  refine quietS.good (fn := Try.f99) hT hP Try.func99 (by kernel_rfl) rfl fun (l : List Int) hq => ?_
  have hp : vOk l := hq _ rfl
  cases hp with
  | mk hp hv hr hc hf hw =>
  rename_i p v r c f w
  have e1 : quietV [p, v, r, c, f, w] = min (if p > 0 then max 1 (p - c) - 1 else 100000) (if r > 0 ∧ v > 0 then max 1 (r * 64 - w) - 1 else 100000) := rfl
  repeat' first
    | (refine Go.mk ?_; conv => whnf)
    | refine Need.go ?_ ?_
    | refine NilG.go (fun _ => ?_) (fun _ => ?_)
    | refine Br.dec (fun _ => ?_) (fun _ => ?_)
    | refine Br.go (fun _ => ?_) (fun _ => ?_)
    | refine draw_go hT hP mixed ?_
    | refine round_go hT hP ?_
  all_goals first
    | exact of_decide_eq_true rfl
    | skip
  all_goals
    refine .mk [] [] _ rfl rfl rfl rfl rfl rfl (imm_int ?_)
    show _ = quietV [p, v, r, c, f, w]
    rw [e1]
    have ew1 : IntKind.i64.wrap (p - c) = p - c := w64 (by omega) (by omega)
    have ew2 : IntKind.i64.wrap (r * 64) = r * 64 := w64 (by omega) (by omega)
    have ew3 : IntKind.i64.wrap (r * 64 - w) = r * 64 - w := w64 (by omega) (by omega)
    have ew4 : IntKind.i64.wrap (max 1 (p - c) - 1) = max 1 (p - c) - 1 := w64 (by omega) (by omega)
    have ew5 : IntKind.i64.wrap (max 1 (r * 64 - w) - 1) = max 1 (r * 64 - w) - 1 := w64 (by omega) (by omega)
    clear hT hP hq
    simp [ew1, ew2, ew3, ew4, ew5, imax_eq, imin_eq] at *
    first | omega | (simp [*]; done) | (simp [*]; omega)

def passS : WSpec := ⟨Nat × List Int × Int, fun x => [.c (.sub 0 x.1 6), .c (iv .i64 x.2.2)], fun x => [.arr (.int .i64) x.2.1],
  fun a b => (match a, b with | [.c (.sub 0 off 6), .c (.imm (.int .i64 k))], [.arr (.int .i64) l] => some (off, l, k) | _, _ => none),
  fun x => (some ((x.1 = 0 ∨ x.1 = 6) ∧ (∃ a b, x.2.1 = a ++ b ∧ vOk a ∧ vOk b) ∧ 0 ≤ x.2.2 ∧ x.2.2 ≤ 10000000), .tup [], [some (.arr (.int .i64) (passL x.1 x.2.1 x.2.2))], [])⟩
theorem pass_ok : Good Try.prog 100 passS.spec := by
  have hT := tab_ok (fs := []) tree_ok
  have hP : SpecsOk Try.prog (tab tree []) := specs_nil
  refine passS.good (fn := Try.f100) hT hP Try.func100 (by kernel_rfl) rfl ?_ fun ((off, l, k) : Nat × List Int × Int) hq => ?_
  · intro a b x h
    simp only [passS] at h
    split at h
    · injection h with h; subst h; exact ⟨rfl, rfl⟩
    · cases h
  obtain ⟨ho, ⟨a, b, hl, ha, hb⟩, hk0, hk1⟩ : (off = 0 ∨ off = 6) ∧ (∃ a b, l = a ++ b ∧ vOk a ∧ vOk b) ∧ 0 ≤ k ∧ k ≤ 10000000 := hq _ rfl
  rcases ho with rfl | rfl
  · cases ha with
    | mk hp hv hr hc hf hw =>
    cases hb with
    | mk hp' hv' hr' hc' hf' hw' =>
    obtain rfl := hl
    rename_i p v r c f w p' v' r' c' f' w'
    repeat' first
      | (refine Go.mk ?_; conv => whnf)
      | refine Need.go ?_ ?_
      | refine NilG.go (fun _ => ?_) (fun _ => ?_)
      | refine Br.dec (fun _ => ?_) (fun _ => ?_)
      | refine Br.go (fun _ => ?_) (fun _ => ?_)
      | refine draw_go hT hP mixed ?_
      | refine round_go hT hP ?_
    all_goals first
      | exact of_decide_eq_true rfl
      | skip
    all_goals
      refine .mk [] [0] _ rfl rfl rfl rfl rfl (blk_eqs ?_) rfl
      have ew1 : IntKind.i64.wrap (c + k) = c + k := w64 (by omega) (by omega)
      have ew2 : IntKind.i64.wrap (1 - f) = 1 - f := w64 (by omega) (by omega)
      have ew3 : IntKind.i64.wrap (w + k) = w + k := w64 (by omega) (by omega)
      have ew4 : IntKind.i64.wrap (r * 64) = r * 64 := w64 (by omega) (by omega)
      have ew5 : IntKind.i64.wrap (v - 1) = v - 1 := w64 (by omega) (by omega)
      clear hT hP hq
      simp [ew1, ew2, ew3, ew4, ew5] at *
      try simp [passL, passV, *]
    all_goals (repeat' first | refine And.intro ?_ ?_ | intro _)
    all_goals first | omega | (exfalso; omega)
  · cases ha with
    | mk hp hv hr hc hf hw =>
    cases hb with
    | mk hp' hv' hr' hc' hf' hw' =>
    obtain rfl := hl
    rename_i p' v' r' c' f' w' p v r c f w
    repeat' first
      | (refine Go.mk ?_; conv => whnf)
      | refine Need.go ?_ ?_
      | refine NilG.go (fun _ => ?_) (fun _ => ?_)
      | refine Br.dec (fun _ => ?_) (fun _ => ?_)
      | refine Br.go (fun _ => ?_) (fun _ => ?_)
      | refine draw_go hT hP mixed ?_
      | refine round_go hT hP ?_
    all_goals first
      | exact of_decide_eq_true rfl
      | skip
    all_goals
      refine .mk [] [0] _ rfl rfl rfl rfl rfl (blk_eqs ?_) rfl
      have ew1 : IntKind.i64.wrap (c + k) = c + k := w64 (by omega) (by omega)
      have ew2 : IntKind.i64.wrap (1 - f) = 1 - f := w64 (by omega) (by omega)
      have ew3 : IntKind.i64.wrap (w + k) = w + k := w64 (by omega) (by omega)
      have ew4 : IntKind.i64.wrap (r * 64) = r * 64 := w64 (by omega) (by omega)
      have ew5 : IntKind.i64.wrap (v - 1) = v - 1 := w64 (by omega) (by omega)
      clear hT hP hq
      simp [ew1, ew2, ew3, ew4, ew5] at *
      try simp [passL, passV, *]
    all_goals (repeat' first | refine And.intro ?_ ?_ | intro _)
    all_goals first | omega | (exfalso; omega)

end Go.Proofs.Ythpijepbbpcjeaa
