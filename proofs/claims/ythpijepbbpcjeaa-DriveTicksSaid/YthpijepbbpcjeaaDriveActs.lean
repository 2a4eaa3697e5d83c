/- bakelaw1.DriveActs answers true, whatever it is given. -/
import Derived.Test.YthpijepbbpcjeaaDrive2
namespace Go.Proofs.Ythpijepbbpcjeaa
open Go.Fw
set_option linter.unusedVariables false
set_option linter.unusedSimpArgs false
set_option maxRecDepth 100000

abbrev e0 (N : List Int) (q : Nat) : Int := if N.getD 0 0 % 256 > q then 0 else N.getD 0 0 % 256
abbrev e1 (N : List Int) : Int := N.getD 1 0 % 4
abbrev e2 (N : List Int) : Int := if N.getD 2 0 % 8 > 4 then 0 else N.getD 2 0 % 8
abbrev e3 (N : List Int) : Int := N.getD 3 0 % 4
abbrev e4 (N : List Int) : Int := N.getD 4 0 % 16
abbrev e5 (N : List Int) : Int := N.getD 5 0 % 64
abbrev e6 (N : List Int) : Int := N.getD 6 0 % 256
abbrev e7 (N : List Int) : Int := N.getD 7 0 % 2
abbrev e8 (N : List Int) : Int := N.getD 8 0 % 2
abbrev e9 (N : List Int) : Int := N.getD 9 0 % 2
theorem dN_eq (N : List Int) (q : Nat) : dN N q = [e0 N q, e1 N, e2 N, e3 N, e4 N, e5 N, e6 N, e7 N, e8 N, e9 N] := rfl
theorem eR (N : List Int) (q : Nat) : (0 ≤ e0 N q ∧ e0 N q < 256) ∧ (0 ≤ e1 N ∧ e1 N < 4) ∧ (0 ≤ e2 N ∧ e2 N ≤ 4) ∧ (0 ≤ e3 N ∧ e3 N < 4) ∧ (0 ≤ e4 N ∧ e4 N < 16) ∧ (0 ≤ e5 N ∧ e5 N < 64) ∧ (0 ≤ e6 N ∧ e6 N < 256) ∧ (0 ≤ e7 N ∧ e7 N < 2) ∧ (0 ≤ e8 N ∧ e8 N < 2) ∧ (0 ≤ e9 N ∧ e9 N < 2) := by
  unfold e0 e1 e2 e3 e4 e5 e6 e7 e8 e9
  refine ⟨?_, ?_, ?_, ?_, ?_, ?_, ?_, ?_, ?_, ?_⟩
  · split <;> omega
  · omega
  · split <;> omega
  all_goals omega

theorem agg_ro {m m' : List Int} (h : m = m') : AV.agg [.own 0, .ro (.int .u8) m] = AV.agg [.own 0, .ro (.int .u8) m'] := by rw [h]
def dformedRS : PSpec := ⟨[gC, gD], fun (c, d, _) => (some (c.2.1 = 8 ∧ List.length d.2 ≤ 140737488355328), .agg [.own 0, .ro (.int .u8) (dM d.2)], [.arr (.int .i64) (dN d.1 (qF d.2))])⟩
def dformedR0S : PSpec := ⟨[gC, gD], fun (c, d, _) => (some (c.2.1 = 8 ∧ List.length d.2 ≤ 140737488355328 ∧ qF d.2 = 0), .agg [.own 0, .ro (.int .u8) []], [.arr (.int .i64) (dN d.1 (qF d.2))])⟩
theorem dformedR0_ok : Good Try.prog 15 dformedR0S.spec :=
  Good.map dformed0_ok fun (c, d, _) hp => ⟨hp, rfl, fun E v h => h.nil_ro⟩
def dformedR1S : PSpec := ⟨[gC, gD], fun (c, d, _) => (some (c.2.1 = 8 ∧ List.length d.2 ≤ 140737488355328 ∧ 0 < qF d.2), .agg [.own 0, .ro (.int .u8) (dM d.2)], [.arr (.int .i64) (dN d.1 (qF d.2))])⟩
theorem dformedR1_ok : Good Try.prog 15 dformedR1S.spec := by
  have hT := tab_ok (fs := [(82, formS.spec)]) tree_ok
  have hP : SpecsOk Try.prog (tab tree [(82, formS.spec)]) := specs_cons form_ok specs_nil
  refine dformedR1S.good (fn := Try.f15) hT hP Try.func15 (by kernel_rfl) rfl fun (c : Cv) (d : Dv) hp => ?_
  obtain ⟨cn, ck, cb, cs, cd⟩ := c
  obtain ⟨N, M⟩ := d
  obtain ⟨rfl, hl, h0⟩ : ck = 8 ∧ M.length ≤ 140737488355328 ∧ 0 < qF M := hp _ rfl
  have hq := qF_int M hl
  have hq2 := qF_le M
  have hm : over (List.replicate (IntKind.i64.wrap (IntKind.i64.wrap (Int.tdiv (M.length : Int) 256) * 256)).toNat 0) M 0 = dM M := by
    rw [hq]; exact over_take M hq2
  repeat' first
    | (refine Go.mk ?_; conv => whnf)
    | refine Need.go ?_ ?_
    | refine NilG.go (fun _ => ?_) (fun _ => ?_)
    | refine Br.dec (fun _ => ?_) (fun _ => ?_)
    | refine Br.go (fun _ => ?_) (fun _ => ?_)
    | refine draw_go hT hP mixed ?_
    | refine round_go hT hP ?_
  all_goals first
    | exact dmods_ok
    | exact of_decide_eq_true rfl
    | skip
  all_goals first
    | (exfalso; rename_i h; have h : ¬ IntKind.i64.wrap (IntKind.i64.wrap (Int.tdiv (M.length : Int) 256) * 256) > 0 := h; rw [hq] at h; omega)
    | (have e : ty5.bytes = 1 := rfl
       rw [e, show (List.length (N, M).2) = M.length from rfl, hq]; omega)
    | (rename_i h1 h2 h
       have h1 : IntKind.i64.wrap (N.getD 0 0 % 256 * 256) > IntKind.i64.wrap (IntKind.i64.wrap (Int.tdiv (M.length : Int) 256) * 256) := h1
       have h2 : N.getD 2 0 % 8 > 4 := h2
       rw [hq, w64 (by omega) (by omega)] at h1
       refine .mk [6] [5] _ rfl rfl rfl rfl rfl (blk_eqs (l := dL N 0 0) (l' := dN N (qF M)) ?_) (agg_ro hm)
       rw [dN_if, if_pos (by omega), if_pos h2]; rfl)
    | (rename_i h1 h2 h
       have h1 : IntKind.i64.wrap (N.getD 0 0 % 256 * 256) > IntKind.i64.wrap (IntKind.i64.wrap (Int.tdiv (M.length : Int) 256) * 256) := h1
       have h2 : ¬ N.getD 2 0 % 8 > 4 := h2
       rw [hq, w64 (by omega) (by omega)] at h1
       refine .mk [6] [5] _ rfl rfl rfl rfl rfl (blk_eqs (l := dL N 0 (N.getD 2 0 % 8)) (l' := dN N (qF M)) ?_) (agg_ro hm)
       rw [dN_if, if_pos (by omega), if_neg h2]; rfl)
    | (rename_i h1 h2 h
       have h1 : ¬ IntKind.i64.wrap (N.getD 0 0 % 256 * 256) > IntKind.i64.wrap (IntKind.i64.wrap (Int.tdiv (M.length : Int) 256) * 256) := h1
       have h2 : N.getD 2 0 % 8 > 4 := h2
       rw [hq, w64 (by omega) (by omega)] at h1
       refine .mk [6] [5] _ rfl rfl rfl rfl rfl (blk_eqs (l := dL N (N.getD 0 0 % 256) 0) (l' := dN N (qF M)) ?_) (agg_ro hm)
       rw [dN_if, if_neg (by omega), if_pos h2]; rfl)
    | (rename_i h1 h2 h
       have h1 : ¬ IntKind.i64.wrap (N.getD 0 0 % 256 * 256) > IntKind.i64.wrap (IntKind.i64.wrap (Int.tdiv (M.length : Int) 256) * 256) := h1
       have h2 : ¬ N.getD 2 0 % 8 > 4 := h2
       rw [hq, w64 (by omega) (by omega)] at h1
       refine .mk [6] [5] _ rfl rfl rfl rfl rfl (blk_eqs (l := dL N (N.getD 0 0 % 256) (N.getD 2 0 % 8)) (l' := dN N (qF M)) ?_) (agg_ro hm)
       rw [dN_if, if_neg (by omega), if_neg h2]; rfl)
theorem dformedR_ok : Good Try.prog 15 dformedRS.spec := by
  refine Good.cases dformedR0_ok dformedR1_ok fun (c, d, _) hp => ?_
  obtain ⟨hk, hl⟩ : c.2.1 = 8 ∧ List.length d.2 ≤ 140737488355328 := hp _ rfl
  by_cases h : qF d.2 = 0
  · left
    refine ⟨fun q hq => ?_, ?_⟩
    · injection hq with hq
      subst hq
      exact ⟨hk, hl, h⟩
    · have : dM d.2 = [] := by unfold dM; rw [h]; rfl
      show (AV.agg [.own 0, .ro (.int .u8) []], _) = (AV.agg [.own 0, .ro (.int .u8) (dM d.2)], _)
      rw [this]
  · right
    refine ⟨fun q hq => ?_, rfl⟩
    injection hq with hq
    subst hq
    exact ⟨hk, hl, Nat.pos_of_ne_zero h⟩

theorem or_bits4 (b : Bool) (f o : Int) (z : Bool) (h7 : 0 ≤ f ∧ f < 2) (h8 : 0 ≤ o ∧ o < 2) : lor .i64 (lor .i64 (lor .i64 (bitI b) (shl .i64 f 1)) (shl .i64 o 2)) (8 * bitI z) = bitI b + 2 * f + 4 * o + 8 * bitI z := by
  have a1 : f = 0 ∨ f = 1 := by omega
  have a2 : o = 0 ∨ o = 1 := by omega
  rcases a1 with rfl | rfl <;> rcases a2 with rfl | rfl <;> cases b <;> cases z <;> decide +kernel
theorem bitI_in (b : Bool) : 0 ≤ bitI b ∧ bitI b ≤ 1 := by cases b <;> decide
theorem imin_bit {x : Int} (h : 0 ≤ x) : imin 1 x = bitI (decide (x > 0)) := by
  rw [imin_eq]
  by_cases hx : x > 0
  · rw [decide_eq_true hx]; show min 1 x = 1; omega
  · rw [decide_eq_false hx]; show min 1 x = 0; omega
def drF (N : List Int) (q : Nat) (a : Int) : Int := pickF [bitI (decide (e2 N > 0)) + 2 * e7 N + 4 * e8 N + 8 * bitI (decide (e0 N q = 0)), e6 N, e1 N, e9 N] a
def drN (N : List Int) (q : Nat) (a : Int) : List Int := [e0 N q, e1 N, e2 N, e3 N, e4 N, e5 N, e6 N, if a = 1 ∧ ¬ e2 N = 4 then 0 else e7 N, if a = 0 then 0 else e8 N, e9 N]
def dreadS : PSpec := ⟨[gD, gi], fun (d, a, _) => (some (List.length d.2 ≤ 140737488355328), .tup [.agg [.own 0, .own 1], I1 (drF d.1 (qF d.2) a)], [.arr (.int .i64) (drN d.1 (qF d.2) a), .arr (.int .u8) (dM d.2)])⟩
theorem dread_ok : Good Try.prog 54 dreadS.spec := by
  have hT := tab_ok (fs := [(109, dfitS.spec), (111, busyS.spec)]) tree_ok
  have hP : SpecsOk Try.prog (tab tree [(109, dfitS.spec), (111, busyS.spec)]) := specs_cons dfit_ok (specs_cons busy_ok specs_nil)
  refine dreadS.good (fn := Try.f54) hT hP Try.func54 (by kernel_rfl) rfl fun (d : Dv) (a : Int) hp => ?_
  obtain ⟨N, M⟩ := d
  have hl : M.length ≤ 140737488355328 := hp _ rfl
  obtain ⟨r0, r1, r2, r3, r4, r5, r6, r7, r8, r9⟩ := eR N (qF M)
  have hor := or_bits4 (decide (e2 N > 0)) (e7 N) (e8 N) (decide (e0 N (qF M) = 0)) r7 r8
  rw [← imin_bit r2.1] at hor
  repeat' first
    | (refine Go.mk ?_; conv => whnf)
    | refine Need.go ?_ ?_
    | refine NilG.go (fun _ => ?_) (fun _ => ?_)
    | refine Br.dec (fun _ => ?_) (fun _ => ?_)
    | refine Br.go (fun _ => ?_) (fun _ => ?_)
    | refine draw_go hT hP mixed ?_
    | refine round_go hT hP ?_
  all_goals (try subst_vars)
  all_goals first
    | exact rfl
    | exact hl
    | exact of_decide_eq_true rfl
    | exact .mk [] [2, 3] _ rfl rfl rfl rfl rfl rfl rfl
    | skip
  · rename_i h
    have h : e0 N (qF M) = 0 := h
    refine .mk [] [2, 3] _ rfl rfl rfl rfl rfl rfl (tup_r2 ?_)
    show lor .i64 (lor .i64 (lor .i64 (imin 1 (e2 N)) (shl .i64 (e7 N) 1)) (shl .i64 (e8 N) 2)) 8 = bitI (decide (e2 N > 0)) + 2 * e7 N + 4 * e8 N + 8 * bitI (decide (e0 N (qF M) = 0))
    rw [← imin_bit r2.1]
    rw [decide_eq_true h] at hor ⊢
    exact hor
  · rename_i h
    have h : ¬ e0 N (qF M) = 0 := h
    refine .mk [] [2, 3] _ rfl rfl rfl rfl rfl rfl (tup_r2 ?_)
    show lor .i64 (lor .i64 (lor .i64 (imin 1 (e2 N)) (shl .i64 (e7 N) 1)) (shl .i64 (e8 N) 2)) 0 = bitI (decide (e2 N > 0)) + 2 * e7 N + 4 * e8 N + 8 * bitI (decide (e0 N (qF M) = 0))
    rw [← imin_bit r2.1]
    rw [decide_eq_false h] at hor ⊢
    exact hor
  · rename_i h _
    have h : (e2 N != 4) = true := h
    have h : ¬ e2 N = 4 := by simpa using h
    refine .mk [] [2, 3] _ rfl rfl rfl rfl rfl (blk2_eq (l := [e0 N (qF M), e1 N, e2 N, e3 N, e4 N, e5 N, e6 N, 0, e8 N, e9 N]) (l' := drN N (qF M) 1) ?_ rfl) rfl
    rw [drN, if_pos ⟨rfl, h⟩]; rfl
  · rename_i h _
    have h : (e2 N != 4) = false := h
    have h : e2 N = 4 := by simpa using h
    refine .mk [] [2, 3] _ rfl rfl rfl rfl rfl (blk2_eq (l := dN N (qF M)) (l' := drN N (qF M) 1) ?_ rfl) rfl
    rw [dN_eq, drN, if_neg (fun z => z.2 h)]; rfl
  · rename_i g0 g1 g2 g3
    have e : drF N (qF M) a = 0 := pick_no fun i hi => by
      have : i < 4 := hi
      omega
    refine .mk [] [2, 3] _ rfl rfl rfl rfl rfl (blk2_eq (l := dN N (qF M)) (l' := drN N (qF M) a) ?_ rfl) (tup_r2 e.symm)
    rw [dN_eq, drN, if_neg (fun z => g1 z.1), if_neg g0]

theorem tup_ro {x y : Int} {m : List Int} (h : x = y) : AV.tup [.agg [.own 0, .ro (.int .u8) m], I1 x] = AV.tup [.agg [.own 0, .ro (.int .u8) m], I1 y] := by rw [h]
def dloadedS : PSpec := ⟨[gC, gD, gi], fun (c, d, a, _) => (some (c.2.1 = 8 ∧ List.length d.2 ≤ 140737488355328), .tup [.agg [.own 0, .ro (.int .u8) (dM d.2)], I1 (drF d.1 (qF d.2) a)], [.arr (.int .i64) (drN d.1 (qF d.2) a)])⟩
theorem dloaded_ok : Good Try.prog 25 dloadedS.spec := by
  have hT := tab_ok (fs := [(15, dformedRS.spec), (92, pickS.spec), (93, truthS.spec)]) tree_ok
  have hP : SpecsOk Try.prog (tab tree [(15, dformedRS.spec), (92, pickS.spec), (93, truthS.spec)]) := specs_cons dformedR_ok (specs_cons pick_ok (specs_cons seen_ok specs_nil))
  refine dloadedS.good (fn := Try.f25) hT hP Try.func25 (by kernel_rfl) rfl fun (c : Cv) (d : Dv) (a : Int) hp => ?_
  obtain ⟨cn, ck, cb, cs, cd⟩ := c
  obtain ⟨N, M⟩ := d
  obtain ⟨rfl, hl⟩ : ck = 8 ∧ M.length ≤ 140737488355328 := hp _ rfl
  obtain ⟨r0, r1, r2, r3, r4, r5, r6, r7, r8, r9⟩ := eR N (qF M)
  have b1 := bitI_in (decide (e2 N > 0))
  have b2 := bitI_in (decide (e0 N (qF M) = 0))
  have hv : IntKind.i64.wrap (IntKind.i64.wrap (IntKind.i64.wrap (bitI (decide (e2 N > 0)) + IntKind.i64.wrap (2 * e7 N)) + IntKind.i64.wrap (4 * e8 N)) + IntKind.i64.wrap (8 * bitI (decide (e0 N (qF M) = 0)))) = bitI (decide (e2 N > 0)) + 2 * e7 N + 4 * e8 N + 8 * bitI (decide (e0 N (qF M) = 0)) := by
    rw [w64 (x := 2 * e7 N) (by omega) (by omega), w64 (x := 4 * e8 N) (by omega) (by omega), w64 (x := 8 * bitI (decide (e0 N (qF M) = 0))) (by omega) (by omega), w64 (x := bitI (decide (e2 N > 0)) + 2 * e7 N) (by omega) (by omega),
      w64 (x := bitI (decide (e2 N > 0)) + 2 * e7 N + 4 * e8 N) (by omega) (by omega), w64 (by omega) (by omega)]
  repeat' first
    | (refine Go.mk ?_; conv => whnf)
    | refine Need.go ?_ ?_
    | refine NilG.go (fun _ => ?_) (fun _ => ?_)
    | refine Br.dec (fun _ => ?_) (fun _ => ?_)
    | refine Br.go (fun _ => ?_) (fun _ => ?_)
    | refine draw_go hT hP mixed ?_
    | refine round_go hT hP ?_
  all_goals first
    | exact ⟨rfl, hl⟩
    | exact of_decide_eq_true rfl
    | skip
  · rename_i g0 g1 g2
    have g0 : a = 0 := g0
    have g1 : a = 1 := g1
    omega
  · rename_i g0 g1 g2
    have g0 : a = 0 := g0
    have g1 : a = 1 := g1
    omega
  · rename_i g0 g1
    have g0 : a = 0 := g0
    have g1 : ¬ a = 1 := g1
    refine .mk [] [4] _ rfl rfl rfl rfl rfl (blk_eqs (l := [e0 N (qF M), e1 N, e2 N, e3 N, e4 N, e5 N, e6 N, e7 N, 0, e9 N]) (l' := drN N (qF M) a) ?_) (tup_ro (congrArg (fun z => pickF [z, e6 N, e1 N, e9 N] a) hv))
    rw [drN, if_neg (fun z => g1 z.1), if_pos g0]
  · rename_i g0 g1 g2
    have g0 : ¬ a = 0 := g0
    have g1 : a = 1 := g1
    have g2 : (e2 N != 4) = true := g2
    have g2 : ¬ e2 N = 4 := by simpa using g2
    refine .mk [] [4] _ rfl rfl rfl rfl rfl (blk_eqs (l := [e0 N (qF M), e1 N, e2 N, e3 N, e4 N, e5 N, e6 N, 0, e8 N, e9 N]) (l' := drN N (qF M) a) ?_) (tup_ro (congrArg (fun z => pickF [z, e6 N, e1 N, e9 N] a) hv))
    rw [drN, if_pos ⟨g1, g2⟩, if_neg g0]
  · rename_i g0 g1 g2
    have g0 : ¬ a = 0 := g0
    have g2 : (e2 N != 4) = false := g2
    have g2 : e2 N = 4 := by simpa using g2
    refine .mk [] [4] _ rfl rfl rfl rfl rfl (blk_eqs (l := dN N (qF M)) (l' := drN N (qF M) a) ?_) (tup_ro (congrArg (fun z => pickF [z, e6 N, e1 N, e9 N] a) hv))
    rw [dN_eq, drN, if_neg (fun z => z.2 g2), if_neg g0]
  · rename_i g0 g1
    have g0 : ¬ a = 0 := g0
    have g1 : ¬ a = 1 := g1
    refine .mk [] [4] _ rfl rfl rfl rfl rfl (blk_eqs (l := dN N (qF M)) (l' := drN N (qF M) a) ?_) (tup_ro (congrArg (fun z => pickF [z, e6 N, e1 N, e9 N] a) hv))
    rw [dN_eq, drN, if_neg (fun z => g1 z.1), if_neg g0]

def beginF (n : List Int) (k : Int) : List Int :=
  if n.getD 2 0 > 0 ∨ k % 16 = 0 ∨ k % 16 > 4 ∨ (k % 16 > 2 ∧ n.getD 0 0 = 0) then n
  else ((((n.set 2 (k % 16)).set 3 (k / 16 % 4)).set 4 0).set 5 30).set 7 (bitI (decide (k % 16 = 4)))
theorem set_twice (n : List Int) (i : Nat) (x y : Int) : (n.set i x).set i y = n.set i y := by simp
theorem byte_ops {k : Int} (h : 0 ≤ k ∧ k < 256) : land .i64 k 15 = k % 16 ∧ land .i64 (shr .i64 k 4) 3 = k / 16 % 4 := by
  have all : ∀ n, n < 256 → land .i64 ((n : Nat) : Int) 15 = ((n : Nat) : Int) % 16 ∧ land .i64 (shr .i64 ((n : Nat) : Int) 4) 3 = ((n : Nat) : Int) / 16 % 4 := by decide +kernel
  obtain ⟨n, rfl⟩ := Int.eq_ofNat_of_zero_le h.1
  exact all n (by omega)
theorem begin_no {n : List Int} {k : Int} (h : n.getD 2 0 > 0 ∨ k % 16 = 0 ∨ k % 16 > 4 ∨ (k % 16 > 2 ∧ n.getD 0 0 = 0)) : beginF n k = n := by rw [beginF, if_pos h]
theorem begin_yes {n : List Int} {k : Int} (h : ¬ (n.getD 2 0 > 0 ∨ k % 16 = 0 ∨ k % 16 > 4 ∨ (k % 16 > 2 ∧ n.getD 0 0 = 0))) : beginF n k = ((((n.set 2 (k % 16)).set 3 (k / 16 % 4)).set 4 0).set 5 30).set 7 (bitI (decide (k % 16 = 4))) := by rw [beginF, if_neg h]
theorem set6 (n : List Int) (k : Int) : (n.set 6 k).getD 2 0 = n.getD 2 0 := by simp [List.getD_eq_getElem?_getD]
def beginS : WSpec := ⟨List Int × Int, fun x => [.c (.own 0), I1 x.2], fun x => [.arr (.int .i64) x.1], fun a b => (match a, b with | [.c (.own 0), .c (.imm (.int .i64 k))], [.arr (.int .i64) n] => some (n, k) | _, _ => none),
  fun x => (some (x.1.length = 10 ∧ 0 ≤ x.1.getD 2 0 ∧ 0 ≤ x.2 ∧ x.2 < 256), .tup [], [some (.arr (.int .i64) (beginF x.1 x.2))], [])⟩
theorem begin_ok : Good Try.prog 112 beginS.spec := by
  have hT := tab_ok (fs := []) tree_ok
  have hP : SpecsOk Try.prog (tab tree []) := specs_nil
  refine beginS.good (fn := Try.f112) hT hP Try.func112 (by kernel_rfl) rfl ?_ fun ((n, k) : List Int × Int) hp => ?_
  · intro a b x h
    simp only [beginS] at h
    split at h
    · injection h with h; subst h; exact ⟨rfl, rfl⟩
    · cases h
  obtain ⟨hl, h2, hk⟩ : n.length = 10 ∧ 0 ≤ n.getD 2 0 ∧ 0 ≤ k ∧ k < 256 := hp _ rfl
  obtain ⟨b1, b2⟩ := byte_ops hk
  repeat' first
    | (refine Go.mk ?_; conv => whnf)
    | refine Need.go ?_ ?_
    | refine NilG.go (fun _ => ?_) (fun _ => ?_)
    | refine Br.dec (fun _ => ?_) (fun _ => ?_)
    | refine Br.go (fun _ => ?_) (fun _ => ?_)
    | refine draw_go hT hP mixed ?_
    | refine round_go hT hP ?_
  all_goals first
    | (dsimp only at *; simp only [List.length_set, hl]; decide)
    | skip
  · rename_i g2
    have g2 : n.getD 2 0 > 0 := g2
    refine .mk [] [0] _ rfl rfl rfl rfl rfl (blk_eqs (l := n) (l' := beginF n k) ?_) rfl
    exact (begin_no (.inl g2)).symm
  · rename_i g2 g3
    have g2 : ¬ n.getD 2 0 > 0 := g2
    have g3 : land .i64 k 15 < 1 := g3; rw [b1] at g3
    refine .mk [] [0] _ rfl rfl rfl rfl rfl (blk_eqs (l := n) (l' := beginF n k) ?_) rfl
    exact (begin_no (by omega)).symm
  · rename_i g2 g3 g4
    have g2 : ¬ n.getD 2 0 > 0 := g2
    have g3 : ¬ land .i64 k 15 < 1 := g3; rw [b1] at g3
    have g4 : land .i64 k 15 > 4 := g4; rw [b1] at g4
    refine .mk [] [0] _ rfl rfl rfl rfl rfl (blk_eqs (l := n) (l' := beginF n k) ?_) rfl
    exact (begin_no (by omega)).symm
  · rename_i g2 g3 g4 g5 g6
    have g2 : ¬ n.getD 2 0 > 0 := g2
    have g3 : ¬ land .i64 k 15 < 1 := g3; rw [b1] at g3
    have g4 : ¬ land .i64 k 15 > 4 := g4; rw [b1] at g4
    have g5 : land .i64 k 15 ≥ 3 := g5; rw [b1] at g5
    have g6 : n.getD 0 0 = 0 := g6
    refine .mk [] [0] _ rfl rfl rfl rfl rfl (blk_eqs (l := n) (l' := beginF n k) ?_) rfl
    exact (begin_no (by omega)).symm
  · decide
  · rename_i g2 g3 g4 g5 g6 g7
    have g2 : ¬ n.getD 2 0 > 0 := g2
    have g3 : ¬ land .i64 k 15 < 1 := g3; rw [b1] at g3
    have g4 : ¬ land .i64 k 15 > 4 := g4; rw [b1] at g4
    have g5 : land .i64 k 15 ≥ 3 := g5; rw [b1] at g5
    have g6 : ¬ n.getD 0 0 = 0 := g6
    have g7 : land .i64 k 15 = 4 := g7; rw [b1] at g7
    refine .mk [] [0] _ rfl rfl rfl rfl rfl (blk_eqs (l := ((((((n.set 2 (land .i64 k 15)).set 3 (land .i64 (shr .i64 k 4) 3)).set 4 0).set 5 30)).set 7 0).set 7 1) (l' := beginF n k) ?_) rfl
    rw [begin_yes (by omega), b1, b2, decide_eq_true g7, set_twice]; rfl
  · rename_i g2 g3 g4 g5 g6 g7
    have g2 : ¬ n.getD 2 0 > 0 := g2
    have g3 : ¬ land .i64 k 15 < 1 := g3; rw [b1] at g3
    have g4 : ¬ land .i64 k 15 > 4 := g4; rw [b1] at g4
    have g5 : land .i64 k 15 ≥ 3 := g5; rw [b1] at g5
    have g6 : ¬ n.getD 0 0 = 0 := g6
    have g7 : ¬ land .i64 k 15 = 4 := g7; rw [b1] at g7
    refine .mk [] [0] _ rfl rfl rfl rfl rfl (blk_eqs (l := (((((n.set 2 (land .i64 k 15)).set 3 (land .i64 (shr .i64 k 4) 3)).set 4 0).set 5 30)).set 7 0) (l' := beginF n k) ?_) rfl
    rw [begin_yes (by omega), b1, b2, decide_eq_false g7]; rfl
  · decide
  · rename_i g2 g3 g4 g5 g7
    have g2 : ¬ n.getD 2 0 > 0 := g2
    have g3 : ¬ land .i64 k 15 < 1 := g3; rw [b1] at g3
    have g4 : ¬ land .i64 k 15 > 4 := g4; rw [b1] at g4
    have g5 : ¬ land .i64 k 15 ≥ 3 := g5; rw [b1] at g5
    have g7 : land .i64 k 15 = 4 := g7; rw [b1] at g7
    refine .mk [] [0] _ rfl rfl rfl rfl rfl (blk_eqs (l := ((((((n.set 2 (land .i64 k 15)).set 3 (land .i64 (shr .i64 k 4) 3)).set 4 0).set 5 30)).set 7 0).set 7 1) (l' := beginF n k) ?_) rfl
    rw [begin_yes (by omega), b1, b2, decide_eq_true g7, set_twice]; rfl
  · rename_i g2 g3 g4 g5 g7
    have g2 : ¬ n.getD 2 0 > 0 := g2
    have g3 : ¬ land .i64 k 15 < 1 := g3; rw [b1] at g3
    have g4 : ¬ land .i64 k 15 > 4 := g4; rw [b1] at g4
    have g5 : ¬ land .i64 k 15 ≥ 3 := g5; rw [b1] at g5
    have g7 : ¬ land .i64 k 15 = 4 := g7; rw [b1] at g7
    refine .mk [] [0] _ rfl rfl rfl rfl rfl (blk_eqs (l := (((((n.set 2 (land .i64 k 15)).set 3 (land .i64 (shr .i64 k 4) 3)).set 4 0).set 5 30)).set 7 0) (l' := beginF n k) ?_) rfl
    rw [begin_yes (by omega), b1, b2, decide_eq_false g7]; rfl

def commandF (n : List Int) (a k : Int) : List Int :=
  if a = 0 then beginF n k else if a = 1 then (if n.getD 2 0 = 4 then (n.set 6 k).set 7 0 else n.set 6 k) else if a = 3 then n.set 9 (k % 2) else n
def commandS : WSpec := ⟨List Int × Int × Int, fun x => [.c (.own 0), I1 x.2.1, I1 x.2.2], fun x => [.arr (.int .i64) x.1], fun a b => (match a, b with | [.c (.own 0), .c (.imm (.int .i64 a)), .c (.imm (.int .i64 k))], [.arr (.int .i64) n] => some (n, a, k) | _, _ => none),
  fun x => (some (x.1.length = 10 ∧ 0 ≤ x.1.getD 2 0 ∧ 0 ≤ x.2.2 ∧ x.2.2 < 256), .tup [], [some (.arr (.int .i64) (commandF x.1 x.2.1 x.2.2))], [])⟩
theorem command_ok : Good Try.prog 96 commandS.spec := by
  have hT := tab_ok (fs := [(93, truthS.spec)]) tree_ok
  have hP : SpecsOk Try.prog (tab tree [(93, truthS.spec)]) := specs_cons seen_ok specs_nil
  refine commandS.good (fn := Try.f96) hT hP Try.func96 (by kernel_rfl) rfl ?_ fun ((n, a, k) : List Int × Int × Int) hp => ?_
  · intro a b x h
    simp only [commandS] at h
    split at h
    · injection h with h; subst h; exact ⟨rfl, rfl⟩
    · cases h
  obtain ⟨hl, h2, hk⟩ : n.length = 10 ∧ 0 ≤ n.getD 2 0 ∧ 0 ≤ k ∧ k < 256 := hp _ rfl
  have ht : Int.tmod k 16 = k % 16 := Int.tmod_eq_emod_of_nonneg hk.1
  have hd : Int.tmod (IntKind.i64.wrap (Int.tdiv k 16)) 4 = k / 16 % 4 := by
    rw [Int.tdiv_eq_ediv_of_nonneg hk.1, w64 (by omega) (by omega), Int.tmod_eq_emod_of_nonneg (by omega)]
  repeat' first
    | (refine Go.mk ?_; conv => whnf)
    | refine Need.go ?_ ?_
    | refine NilG.go (fun _ => ?_) (fun _ => ?_)
    | refine Br.dec (fun _ => ?_) (fun _ => ?_)
    | refine Br.go (fun _ => ?_) (fun _ => ?_)
    | refine draw_go hT hP mixed ?_
    | refine round_go hT hP ?_
  all_goals first
    | (dsimp only at *; simp only [List.length_set, hl]; decide)
    | skip
  all_goals try decide
  · rename_i g1 g2
    have g1 : a = 0 := g1
    subst g1
    have g2 : (n.getD 2 0 != 0) = true := g2
    have g2 : ¬ n.getD 2 0 = 0 := by simpa using g2
    refine .mk [] [0] _ rfl rfl rfl rfl rfl (blk_eqs (l := n) (l' := commandF n 0 k) ?_) rfl
    exact (begin_no (by omega)).symm
  · rename_i g1 g2 g3
    have g1 : a = 0 := g1
    subst g1
    have g2 : (n.getD 2 0 != 0) = false := g2
    have g2 : n.getD 2 0 = 0 := by simpa using g2
    have g3 : Int.tmod k 16 = 0 := g3; rw [ht] at g3
    refine .mk [] [0] _ rfl rfl rfl rfl rfl (blk_eqs (l := n) (l' := commandF n 0 k) ?_) rfl
    exact (begin_no (by omega)).symm
  · rename_i g1 g2 g3 g4
    have g1 : a = 0 := g1
    subst g1
    have g2 : (n.getD 2 0 != 0) = false := g2
    have g2 : n.getD 2 0 = 0 := by simpa using g2
    have g3 : ¬ Int.tmod k 16 = 0 := g3; rw [ht] at g3
    have g4 : Int.tmod k 16 > 4 := g4; rw [ht] at g4
    refine .mk [] [0] _ rfl rfl rfl rfl rfl (blk_eqs (l := n) (l' := commandF n 0 k) ?_) rfl
    exact (begin_no (by omega)).symm
  · rename_i g1 g2 g3 g4 g5 g6
    have g1 : a = 0 := g1
    subst g1
    have g2 : (n.getD 2 0 != 0) = false := g2
    have g2 : n.getD 2 0 = 0 := by simpa using g2
    have g3 : ¬ Int.tmod k 16 = 0 := g3; rw [ht] at g3
    have g4 : ¬ Int.tmod k 16 > 4 := g4; rw [ht] at g4
    have g5 : Int.tmod k 16 > 2 := g5; rw [ht] at g5
    have g6 : n.getD 0 0 = 0 := g6
    refine .mk [] [0] _ rfl rfl rfl rfl rfl (blk_eqs (l := n) (l' := commandF n 0 k) ?_) rfl
    exact (begin_no (by omega)).symm
  · rename_i g1 g2 g3 g4 g5 g6
    have g1 : a = 0 := g1
    subst g1
    have g2 : (n.getD 2 0 != 0) = false := g2
    have g2 : n.getD 2 0 = 0 := by simpa using g2
    have g3 : ¬ Int.tmod k 16 = 0 := g3; rw [ht] at g3
    have g4 : ¬ Int.tmod k 16 > 4 := g4; rw [ht] at g4
    have g5 : Int.tmod k 16 > 2 := g5; rw [ht] at g5
    have g6 : ¬ n.getD 0 0 = 0 := g6
    refine .mk [] [0] _ rfl rfl rfl rfl rfl (blk_eqs (l := ((((n.set 2 (Int.tmod k 16)).set 3 (Int.tmod (IntKind.i64.wrap (Int.tdiv k 16)) 4)).set 4 0).set 5 30).set 7 (bitI (Int.tmod k 16 == 4))) (l' := commandF n 0 k) ?_) rfl
    show _ = beginF n k
    rw [begin_yes (by omega), ht, hd]; rfl
  · rename_i g1 g2 g3 g4 g5
    have g1 : a = 0 := g1
    subst g1
    have g2 : (n.getD 2 0 != 0) = false := g2
    have g2 : n.getD 2 0 = 0 := by simpa using g2
    have g3 : ¬ Int.tmod k 16 = 0 := g3; rw [ht] at g3
    have g4 : ¬ Int.tmod k 16 > 4 := g4; rw [ht] at g4
    have g5 : ¬ Int.tmod k 16 > 2 := g5; rw [ht] at g5
    refine .mk [] [0] _ rfl rfl rfl rfl rfl (blk_eqs (l := ((((n.set 2 (Int.tmod k 16)).set 3 (Int.tmod (IntKind.i64.wrap (Int.tdiv k 16)) 4)).set 4 0).set 5 30).set 7 (bitI (Int.tmod k 16 == 4))) (l' := commandF n 0 k) ?_) rfl
    show _ = beginF n k
    rw [begin_yes (by omega), ht, hd]; rfl
  · rename_i g0 g1 g2
    have g1 : a = 1 := g1
    subst g1
    have g2 : (n.set 6 k).getD 2 0 = 4 := g2
    rw [set6] at g2
    refine .mk [] [0] _ rfl rfl rfl rfl rfl (blk_eqs (l := (n.set 6 k).set 7 0) (l' := commandF n 1 k) ?_) rfl
    rw [commandF, if_neg (by omega), if_pos rfl, if_pos g2]
  · rename_i g0 g1 g2
    have g1 : a = 1 := g1
    subst g1
    have g2 : ¬ (n.set 6 k).getD 2 0 = 4 := g2
    rw [set6] at g2
    refine .mk [] [0] _ rfl rfl rfl rfl rfl (blk_eqs (l := n.set 6 k) (l' := commandF n 1 k) ?_) rfl
    rw [commandF, if_neg (by omega), if_pos rfl, if_neg g2]
  · rename_i g0 g1 g2
    have g2 : a = 3 := g2
    subst g2
    refine .mk [] [0] _ rfl rfl rfl rfl rfl (blk_eqs (l := n.set 9 (Int.tmod k 2)) (l' := commandF n 3 k) ?_) rfl
    rw [commandF, if_neg (by omega), if_neg (by omega), if_pos rfl, Int.tmod_eq_emod_of_nonneg hk.1]
  · rename_i g0 g1 g2
    have g0 : ¬ a = 0 := g0
    have g1 : ¬ a = 1 := g1
    have g2 : ¬ a = 3 := g2
    refine .mk [] [0] _ rfl rfl rfl rfl rfl (blk_eqs (l := n) (l' := commandF n a k) ?_) rfl
    rw [commandF, if_neg g0, if_neg g1, if_neg g2]

def dwN (N : List Int) (q : Nat) (a k : Int) : List Int := commandF (dN N q) a (k % 256)
def dwriteS : PSpec := ⟨[gD, gi, gi], fun (d, a, k, _) => (some (List.length d.2 ≤ 140737488355328), .agg [.own 0, .own 1], [.arr (.int .i64) (dwN d.1 (qF d.2) a k), .arr (.int .u8) (dM d.2)])⟩
theorem dwrite_ok : Good Try.prog 55 dwriteS.spec := by
  have hT := tab_ok (fs := [(109, dfitS.spec), (112, beginS.spec), (94, lowM.spec)]) tree_ok
  have hP : SpecsOk Try.prog (tab tree [(109, dfitS.spec), (112, beginS.spec), (94, lowM.spec)]) := specs_cons dfit_ok (specs_cons begin_ok (specs_cons lowM_ok specs_nil))
  refine dwriteS.good (fn := Try.f55) hT hP Try.func55 (by kernel_rfl) rfl fun (d : Dv) (a k : Int) hp => ?_
  obtain ⟨N, M⟩ := d
  have hl : M.length ≤ 140737488355328 := hp _ rfl
  obtain ⟨r0, r1, r2, r3, r4, r5, r6, r7, r8, r9⟩ := eR N (qF M)
  repeat' first
    | (refine Go.mk ?_; conv => whnf)
    | refine Need.go ?_ ?_
    | refine NilG.go (fun _ => ?_) (fun _ => ?_)
    | refine Br.dec (fun _ => ?_) (fun _ => ?_)
    | refine Br.go (fun _ => ?_) (fun _ => ?_)
    | refine draw_go hT hP mixed ?_
    | refine round_go hT hP ?_
  all_goals (try subst_vars)
  all_goals first
    | exact rfl
    | exact hl
    | exact of_decide_eq_true rfl
    | exact .mk [] [2, 3] _ rfl rfl rfl rfl rfl rfl rfl
    | skip
  · refine ⟨rfl, r2.1, ?_, ?_⟩
    · exact (by omega : 0 ≤ k % 256)
    · exact (by omega : k % 256 < 256)
  · rename_i h _
    have h : (dN N (qF M)).getD 2 0 = 4 := h
    refine .mk [] [2, 3] _ rfl rfl rfl rfl rfl (blk2_eq (l := ((dN N (qF M)).set 6 (k % 256)).set 7 0) (l' := dwN N (qF M) 1 k) ?_ rfl) rfl
    rw [dwN, commandF, if_neg (by omega), if_pos rfl, if_pos h]
  · rename_i h _
    have h : ¬ (dN N (qF M)).getD 2 0 = 4 := h
    refine .mk [] [2, 3] _ rfl rfl rfl rfl rfl (blk2_eq (l := (dN N (qF M)).set 6 (k % 256)) (l' := dwN N (qF M) 1 k) ?_ rfl) rfl
    rw [dwN, commandF, if_neg (by omega), if_pos rfl, if_neg h]
  · refine .mk [] [2, 3] _ rfl rfl rfl rfl rfl (blk2_eq (l := (dN N (qF M)).set 9 (k % 2 ^ (1 : Int).toNat)) (l' := dwN N (qF M) 3 k) ?_ rfl) rfl
    rw [dwN, commandF, if_neg (by omega), if_neg (by omega), if_pos rfl]
    have e : k % 256 % 2 = k % 2 := by omega
    rw [e]; rfl
  · rename_i g0 g1 g2
    refine .mk [] [2, 3] _ rfl rfl rfl rfl rfl (blk2_eq (l := dN N (qF M)) (l' := dwN N (qF M) a k) ?_ rfl) rfl
    rw [dwN, commandF, if_neg g0, if_neg g1, if_neg g2]

def dstoredS : PSpec := ⟨[gC, gD, gi, gi], fun (c, d, a, k, _) => (some (c.2.1 = 8 ∧ List.length d.2 ≤ 140737488355328), .agg [.own 0, .ro (.int .u8) (dM d.2)], [.arr (.int .i64) (dwN d.1 (qF d.2) a k)])⟩
theorem dstored_ok : Good Try.prog 27 dstoredS.spec := by
  have hT := tab_ok (fs := [(15, dformedRS.spec), (95, modS.spec), (96, commandS.spec)]) tree_ok
  have hP : SpecsOk Try.prog (tab tree [(15, dformedRS.spec), (95, modS.spec), (96, commandS.spec)]) := specs_cons dformedR_ok (specs_cons mod_ok (specs_cons command_ok specs_nil))
  refine dstoredS.good (fn := Try.f27) hT hP Try.func27 (by kernel_rfl) rfl fun (c : Cv) (d : Dv) (a k : Int) hp => ?_
  obtain ⟨cn, ck, cb, cs, cd⟩ := c
  obtain ⟨N, M⟩ := d
  obtain ⟨rfl, hl⟩ : ck = 8 ∧ M.length ≤ 140737488355328 := hp _ rfl
  obtain ⟨r0, r1, r2, r3, r4, r5, r6, r7, r8, r9⟩ := eR N (qF M)
  repeat' first
    | (refine Go.mk ?_; conv => whnf)
    | refine Need.go ?_ ?_
    | refine NilG.go (fun _ => ?_) (fun _ => ?_)
    | refine Br.dec (fun _ => ?_) (fun _ => ?_)
    | refine Br.go (fun _ => ?_) (fun _ => ?_)
    | refine draw_go hT hP mixed ?_
    | refine round_go hT hP ?_
  all_goals first
    | exact ⟨rfl, hl⟩
    | exact of_decide_eq_true rfl
    | (refine ⟨rfl, r2.1, ?_, ?_⟩
       · exact (by omega : 0 ≤ k % 256)
       · exact (by omega : k % 256 < 256))
    | exact .mk [] [3] _ rfl rfl rfl rfl rfl rfl rfl
    | skip

def dcN (N : List Int) (q : Nat) (k : Int) : List Int := if e2 N = 0 then [if k > 0 ∧ k ≤ q then k % 256 else 0, e1 N, e2 N, e3 N, e4 N, e5 N, e6 N, e7 N, e8 N, e9 N] else dN N q
def dchangeS : PSpec := ⟨[gD, gi], fun (d, k, _) => (some (List.length d.2 ≤ 140737488355328), .agg [.own 0, .own 1], [.arr (.int .i64) (dcN d.1 (qF d.2) k), .arr (.int .u8) (dM d.2)])⟩
theorem dchange_ok : Good Try.prog 56 dchangeS.spec := by
  have hT := tab_ok (fs := [(109, dfitS.spec)]) tree_ok
  have hP : SpecsOk Try.prog (tab tree [(109, dfitS.spec)]) := specs_cons dfit_ok specs_nil
  refine dchangeS.good (fn := Try.f56) hT hP Try.func56 (by kernel_rfl) rfl fun (d : Dv) (k : Int) hp => ?_
  obtain ⟨N, M⟩ := d
  have hl : M.length ≤ 140737488355328 := hp _ rfl
  have hqi : IntKind.i64.wrap (Int.tdiv ((dM M).length : Int) 256) = ((qF M : Nat) : Int) := by
    have := qF_le M
    rw [dM_len, Int.tdiv_eq_ediv_of_nonneg (by omega), w64 (by omega) (by omega)]; omega
  repeat' first
    | (refine Go.mk ?_; conv => whnf)
    | refine Need.go ?_ ?_
    | refine NilG.go (fun _ => ?_) (fun _ => ?_)
    | refine Br.dec (fun _ => ?_) (fun _ => ?_)
    | refine Br.go (fun _ => ?_) (fun _ => ?_)
    | refine draw_go hT hP mixed ?_
    | refine round_go hT hP ?_
  all_goals first
    | exact rfl
    | exact hl
    | exact of_decide_eq_true rfl
    | skip
  · rename_i h hk1 hk2
    have h : e2 N = 0 := h
    have hk2 : k ≤ IntKind.i64.wrap (Int.tdiv ((dM M).length : Int) 256) := hk2
    rw [hqi] at hk2
    refine .mk [] [2, 3] _ rfl rfl rfl rfl rfl (blk2_eq (l := [Int.tmod k 256, e1 N, e2 N, e3 N, e4 N, e5 N, e6 N, e7 N, e8 N, e9 N]) (l' := dcN N (qF M) k) ?_ rfl) rfl
    rw [dcN, if_pos h, if_pos ⟨hk1, hk2⟩, Int.tmod_eq_emod_of_nonneg (by omega)]
  · rename_i h hk1 hk2
    have h : e2 N = 0 := h
    have hk2 : ¬ k ≤ IntKind.i64.wrap (Int.tdiv ((dM M).length : Int) 256) := hk2
    rw [hqi] at hk2
    refine .mk [] [2, 3] _ rfl rfl rfl rfl rfl (blk2_eq (l := [0, e1 N, e2 N, e3 N, e4 N, e5 N, e6 N, e7 N, e8 N, e9 N]) (l' := dcN N (qF M) k) ?_ rfl) rfl
    rw [dcN, if_pos h, if_neg (fun z => hk2 z.2)]
  · rename_i h hk1
    have h : e2 N = 0 := h
    refine .mk [] [2, 3] _ rfl rfl rfl rfl rfl (blk2_eq (l := [0, e1 N, e2 N, e3 N, e4 N, e5 N, e6 N, e7 N, e8 N, e9 N]) (l' := dcN N (qF M) k) ?_ rfl) rfl
    rw [dcN, if_pos h, if_neg (fun z => hk1 z.1)]
  · rename_i h
    have h : ¬ e2 N = 0 := h
    refine .mk [] [2, 3] _ rfl rfl rfl rfl rfl (blk2_eq (l := dN N (qF M)) (l' := dcN N (qF M) k) ?_ rfl) rfl
    rw [dcN, if_neg h]

def dgivenS : PSpec := ⟨[gC, gD, gi], fun (c, d, k, _) => (some (c.2.1 = 8 ∧ List.length d.2 ≤ 140737488355328), .agg [.own 0, .ro (.int .u8) (dM d.2)], [.arr (.int .i64) (dcN d.1 (qF d.2) k)])⟩
theorem dgiven_ok : Good Try.prog 29 dgivenS.spec := by
  have hT := tab_ok (fs := [(15, dformedRS.spec), (95, modS.spec)]) tree_ok
  have hP : SpecsOk Try.prog (tab tree [(15, dformedRS.spec), (95, modS.spec)]) := specs_cons dformedR_ok (specs_cons mod_ok specs_nil)
  refine dgivenS.good (fn := Try.f29) hT hP Try.func29 (by kernel_rfl) rfl fun (c : Cv) (d : Dv) (k : Int) hp => ?_
  obtain ⟨cn, ck, cb, cs, cd⟩ := c
  obtain ⟨N, M⟩ := d
  obtain ⟨rfl, hl⟩ : ck = 8 ∧ M.length ≤ 140737488355328 := hp _ rfl
  have hqi : IntKind.i64.wrap (Int.tdiv ((dM M).length : Int) 256) = ((qF M : Nat) : Int) := by
    have := qF_le M
    rw [dM_len, Int.tdiv_eq_ediv_of_nonneg (by omega), w64 (by omega) (by omega)]; omega
  repeat' first
    | (refine Go.mk ?_; conv => whnf)
    | refine Need.go ?_ ?_
    | refine NilG.go (fun _ => ?_) (fun _ => ?_)
    | refine Br.dec (fun _ => ?_) (fun _ => ?_)
    | refine Br.go (fun _ => ?_) (fun _ => ?_)
    | refine draw_go hT hP mixed ?_
    | refine round_go hT hP ?_
  all_goals first
    | exact ⟨rfl, hl⟩
    | exact of_decide_eq_true rfl
    | skip
  · rename_i h hk1 hk2
    have h : e2 N = 0 := h
    have hk2 : k ≤ IntKind.i64.wrap (Int.tdiv ((dM M).length : Int) 256) := hk2
    rw [hqi] at hk2
    refine .mk [] [3] _ rfl rfl rfl rfl rfl (blk_eqs (l := [k % 256, e1 N, e2 N, e3 N, e4 N, e5 N, e6 N, e7 N, e8 N, e9 N]) (l' := dcN N (qF M) k) ?_) rfl
    rw [dcN, if_pos h, if_pos ⟨hk1, hk2⟩]
  · rename_i h hk1 hk2
    have h : e2 N = 0 := h
    have hk2 : ¬ k ≤ IntKind.i64.wrap (Int.tdiv ((dM M).length : Int) 256) := hk2
    rw [hqi] at hk2
    refine .mk [] [3] _ rfl rfl rfl rfl rfl (blk_eqs (l := [0, e1 N, e2 N, e3 N, e4 N, e5 N, e6 N, e7 N, e8 N, e9 N]) (l' := dcN N (qF M) k) ?_) rfl
    rw [dcN, if_pos h, if_neg (fun z => hk2 z.2)]
  · rename_i h hk1
    have h : e2 N = 0 := h
    refine .mk [] [3] _ rfl rfl rfl rfl rfl (blk_eqs (l := [0, e1 N, e2 N, e3 N, e4 N, e5 N, e6 N, e7 N, e8 N, e9 N]) (l' := dcN N (qF M) k) ?_) rfl
    rw [dcN, if_pos h, if_neg (fun z => hk1 z.1)]
  · rename_i h
    have h : ¬ e2 N = 0 := h
    refine .mk [] [3] _ rfl rfl rfl rfl rfl (blk_eqs (l := dN N (qF M)) (l' := dcN N (qF M) k) ?_) rfl
    rw [dcN, if_neg h]

def dirqF (N : List Int) : Bool := decide (e9 N = 1) && decide (e7 N = 1)
def dirqS : PSpec := ⟨[gD], fun (d, _) => (some (List.length d.2 ≤ 140737488355328), .cell (bv (dirqF d.1)), [])⟩
theorem dirq_ok : Good Try.prog 57 dirqS.spec := by
  have hT := tab_ok (fs := [(109, dfitS.spec)]) tree_ok
  have hP : SpecsOk Try.prog (tab tree [(109, dfitS.spec)]) := specs_cons dfit_ok specs_nil
  refine dirqS.good (fn := Try.f57) hT hP Try.func57 (by kernel_rfl) rfl fun (d : Dv) hp => ?_
  obtain ⟨N, M⟩ := d
  have hl : M.length ≤ 140737488355328 := hp _ rfl
  repeat' first
    | (refine Go.mk ?_; conv => whnf)
    | refine Need.go ?_ ?_
    | refine NilG.go (fun _ => ?_) (fun _ => ?_)
    | refine Br.dec (fun _ => ?_) (fun _ => ?_)
    | refine Br.go (fun _ => ?_) (fun _ => ?_)
    | refine draw_go hT hP mixed ?_
    | refine round_go hT hP ?_
  all_goals first
    | exact hl
    | exact of_decide_eq_true rfl
    | (rename_i h
       have h : e9 N = 1 := h
       refine .mk [] [] _ rfl rfl rfl rfl rfl rfl (imm_bool ?_)
       show decide (e7 N = 1) = (decide (e9 N = 1) && decide (e7 N = 1))
       rw [decide_eq_true h]; rfl)
    | (rename_i h
       have h : ¬ e9 N = 1 := h
       refine .mk [] [] _ rfl rfl rfl rfl rfl rfl (imm_bool ?_)
       show _ = (decide (e9 N = 1) && decide (e7 N = 1))
       rw [decide_eq_false h]; rfl)
def daskS : PSpec := ⟨[gC, gD], fun (c, d, _) => (some (c.2.1 = 8 ∧ List.length d.2 ≤ 140737488355328), .cell (bv (dirqF d.1)), [])⟩
theorem dask_ok : Good Try.prog 31 daskS.spec := by
  have hT := tab_ok (fs := [(15, dformedRS.spec)]) tree_ok
  have hP : SpecsOk Try.prog (tab tree [(15, dformedRS.spec)]) := specs_cons dformedR_ok specs_nil
  refine daskS.good (fn := Try.f31) hT hP Try.func31 (by kernel_rfl) rfl fun (c : Cv) (d : Dv) hp => ?_
  obtain ⟨cn, ck, cb, cs, cd⟩ := c
  obtain ⟨N, M⟩ := d
  obtain ⟨rfl, hl⟩ : ck = 8 ∧ M.length ≤ 140737488355328 := hp _ rfl
  obtain ⟨r0, r1, r2, r3, r4, r5, r6, r7, r8, r9⟩ := eR N (qF M)
  repeat' first
    | (refine Go.mk ?_; conv => whnf)
    | refine Need.go ?_ ?_
    | refine NilG.go (fun _ => ?_) (fun _ => ?_)
    | refine Br.dec (fun _ => ?_) (fun _ => ?_)
    | refine Br.go (fun _ => ?_) (fun _ => ?_)
    | refine draw_go hT hP mixed ?_
    | refine round_go hT hP ?_
  all_goals first
    | exact ⟨rfl, hl⟩
    | exact of_decide_eq_true rfl
    | (refine .mk [] [] _ rfl rfl rfl rfl rfl rfl (imm_bool ?_)
       show (IntKind.i64.wrap (e9 N * e7 N) == 1) = (decide (e9 N = 1) && decide (e7 N = 1))
       have a1 : e9 N = 0 ∨ e9 N = 1 := by omega
       have a2 : e7 N = 0 ∨ e7 N = 1 := by omega
       rcases a1 with a1 | a1 <;> rcases a2 with a2 | a2 <;> rw [a1, a2] <;> decide +kernel)
def doutS : PSpec := ⟨[gD], fun (d, _) => (some (List.length d.2 ≤ 140737488355328), I (e1 d.1), [])⟩
theorem dout_ok : Good Try.prog 58 doutS.spec := by
  have hT := tab_ok (fs := [(109, dfitS.spec)]) tree_ok
  have hP : SpecsOk Try.prog (tab tree [(109, dfitS.spec)]) := specs_cons dfit_ok specs_nil
  refine doutS.good (fn := Try.f58) hT hP Try.func58 (by kernel_rfl) rfl fun (d : Dv) hp => ?_
  obtain ⟨N, M⟩ := d
  have hl : M.length ≤ 140737488355328 := hp _ rfl
  repeat' first
    | (refine Go.mk ?_; conv => whnf)
    | refine Need.go ?_ ?_
    | refine NilG.go (fun _ => ?_) (fun _ => ?_)
    | refine Br.dec (fun _ => ?_) (fun _ => ?_)
    | refine Br.go (fun _ => ?_) (fun _ => ?_)
    | refine draw_go hT hP mixed ?_
    | refine round_go hT hP ?_
  all_goals first
    | exact hl
    | exact of_decide_eq_true rfl
    | exact .mk [] [] _ rfl rfl rfl rfl rfl rfl rfl
def dshowsS : PSpec := ⟨[gC, gD], fun (c, d, _) => (some (c.2.1 = 8 ∧ List.length d.2 ≤ 140737488355328), I (e1 d.1), [])⟩
theorem dshows_ok : Good Try.prog 33 dshowsS.spec := by
  have hT := tab_ok (fs := [(15, dformedRS.spec)]) tree_ok
  have hP : SpecsOk Try.prog (tab tree [(15, dformedRS.spec)]) := specs_cons dformedR_ok specs_nil
  refine dshowsS.good (fn := Try.f33) hT hP Try.func33 (by kernel_rfl) rfl fun (c : Cv) (d : Dv) hp => ?_
  obtain ⟨cn, ck, cb, cs, cd⟩ := c
  obtain ⟨N, M⟩ := d
  obtain ⟨rfl, hl⟩ : ck = 8 ∧ M.length ≤ 140737488355328 := hp _ rfl
  repeat' first
    | (refine Go.mk ?_; conv => whnf)
    | refine Need.go ?_ ?_
    | refine NilG.go (fun _ => ?_) (fun _ => ?_)
    | refine Br.dec (fun _ => ?_) (fun _ => ?_)
    | refine Br.go (fun _ => ?_) (fun _ => ?_)
    | refine draw_go hT hP mixed ?_
    | refine round_go hT hP ?_
  all_goals first
    | exact ⟨rfl, hl⟩
    | exact of_decide_eq_true rfl
    | exact .mk [] [] _ rfl rfl rfl rfl rfl rfl rfl
def dnextF (N : List Int) : Int := if e2 N = 0 then 100000 else max 1 (e5 N) - 1
def dnextS : PSpec := ⟨[gD], fun (d, _) => (some (List.length d.2 ≤ 140737488355328), I (dnextF d.1), [])⟩
theorem dnext_ok : Good Try.prog 59 dnextS.spec := by
  have hT := tab_ok (fs := [(109, dfitS.spec)]) tree_ok
  have hP : SpecsOk Try.prog (tab tree [(109, dfitS.spec)]) := specs_cons dfit_ok specs_nil
  refine dnextS.good (fn := Try.f59) hT hP Try.func59 (by kernel_rfl) rfl fun (d : Dv) hp => ?_
  obtain ⟨N, M⟩ := d
  have hl : M.length ≤ 140737488355328 := hp _ rfl
  obtain ⟨r0, r1, r2, r3, r4, r5, r6, r7, r8, r9⟩ := eR N (qF M)
  repeat' first
    | (refine Go.mk ?_; conv => whnf)
    | refine Need.go ?_ ?_
    | refine NilG.go (fun _ => ?_) (fun _ => ?_)
    | refine Br.dec (fun _ => ?_) (fun _ => ?_)
    | refine Br.go (fun _ => ?_) (fun _ => ?_)
    | refine draw_go hT hP mixed ?_
    | refine round_go hT hP ?_
  all_goals first
    | exact hl
    | exact of_decide_eq_true rfl
    | (rename_i h
       have h : e2 N = 0 := h
       refine .mk [] [] _ rfl rfl rfl rfl rfl rfl (imm_int ?_)
       show _ = dnextF N
       rw [dnextF, if_pos h])
    | (rename_i h
       have h : ¬ e2 N = 0 := h
       refine .mk [] [] _ rfl rfl rfl rfl rfl rfl (imm_int ?_)
       show IntKind.i64.wrap (imax 1 (e5 N) - 1) = dnextF N
       rw [dnextF, if_neg h, imax_eq, w64 (by omega) (by omega)])
def drestsS : PSpec := ⟨[gC, gD], fun (c, d, _) => (some (c.2.1 = 8 ∧ List.length d.2 ≤ 140737488355328), I (dnextF d.1), [])⟩
theorem drests_ok : Good Try.prog 35 drestsS.spec := by
  have hT := tab_ok (fs := [(15, dformedRS.spec)]) tree_ok
  have hP : SpecsOk Try.prog (tab tree [(15, dformedRS.spec)]) := specs_cons dformedR_ok specs_nil
  refine drestsS.good (fn := Try.f35) hT hP Try.func35 (by kernel_rfl) rfl fun (c : Cv) (d : Dv) hp => ?_
  obtain ⟨cn, ck, cb, cs, cd⟩ := c
  obtain ⟨N, M⟩ := d
  obtain ⟨rfl, hl⟩ : ck = 8 ∧ M.length ≤ 140737488355328 := hp _ rfl
  obtain ⟨r0, r1, r2, r3, r4, r5, r6, r7, r8, r9⟩ := eR N (qF M)
  repeat' first
    | (refine Go.mk ?_; conv => whnf)
    | refine Need.go ?_ ?_
    | refine NilG.go (fun _ => ?_) (fun _ => ?_)
    | refine Br.dec (fun _ => ?_) (fun _ => ?_)
    | refine Br.go (fun _ => ?_) (fun _ => ?_)
    | refine draw_go hT hP mixed ?_
    | refine round_go hT hP ?_
  all_goals first
    | exact ⟨rfl, hl⟩
    | exact of_decide_eq_true rfl
    | (rename_i h
       have h : e2 N > 0 := h
       refine .mk [] [] _ rfl rfl rfl rfl rfl rfl (imm_int ?_)
       show imax 0 (IntKind.i64.wrap (e5 N - 1)) = dnextF N
       rw [dnextF, if_neg (by omega), imax_eq, w64 (by omega) (by omega)]
       omega)
    | (rename_i h
       have h : ¬ e2 N > 0 := h
       refine .mk [] [] _ rfl rfl rfl rfl rfl rfl (imm_int ?_)
       show _ = dnextF N
       rw [dnextF, if_pos (by omega)])

def daS : PSpec := ⟨[gD, gi, gi], fun (d, a, k, _) => (some (List.length d.2 ≤ 140737488355328), .cell (bv true), [])⟩
theorem dcN_len (N : List Int) (q : Nat) (k : Int) : (dcN N q k).length = 10 := by unfold dcN; split <;> rfl
theorem beginF_len (n : List Int) (k : Int) : (beginF n k).length = n.length := by unfold beginF; split <;> simp
theorem dwN_len (N : List Int) (q : Nat) (a k : Int) : (dwN N q a k).length = 10 := by
  unfold dwN commandF
  split
  · rw [beginF_len]; rfl
  · split
    · split <;> simp [dN]
    · split <;> simp [dN]
theorem da_ok : Good Try.prog 10 daS.spec := by
  have hT := tab_ok (fs := [(50, drivesS.spec), (18, sameS.spec), (53, dnewS.spec), (23, dfresh0S.spec), (54, dreadS.spec), (25, dloadedS.spec), (55, dwriteS.spec), (27, dstoredS.spec), (56, dchangeS.spec), (29, dgivenS.spec), (57, dirqS.spec), (31, daskS.spec), (58, doutS.spec), (33, dshowsS.spec), (59, dnextS.spec), (35, drestsS.spec)]) tree_ok
  have hP : SpecsOk Try.prog (tab tree [(50, drivesS.spec), (18, sameS.spec), (53, dnewS.spec), (23, dfresh0S.spec), (54, dreadS.spec), (25, dloadedS.spec), (55, dwriteS.spec), (27, dstoredS.spec), (56, dchangeS.spec), (29, dgivenS.spec), (57, dirqS.spec), (31, daskS.spec), (58, doutS.spec), (33, dshowsS.spec), (59, dnextS.spec), (35, drestsS.spec)]) := specs_cons drives_ok (specs_cons same_ok (specs_cons dnew_ok (specs_cons dfresh0_ok (specs_cons dread_ok (specs_cons dloaded_ok (specs_cons dwrite_ok (specs_cons dstored_ok (specs_cons dchange_ok (specs_cons dgiven_ok (specs_cons dirq_ok (specs_cons dask_ok (specs_cons dout_ok (specs_cons dshows_ok (specs_cons dnext_ok (specs_cons drests_ok specs_nil)))))))))))))))
  refine daS.good (fn := Try.f10) hT hP Try.func10 (by kernel_rfl) rfl fun (d : Dv) (a k : Int) hp => ?_
  obtain ⟨N, M⟩ := d
  have hl : M.length ≤ 140737488355328 := hp _ rfl
  have hdl : (dM M).length ≤ 4611686018427387904 := by rw [dM_len]; have := qF_le M; omega
  have hw := dwN_len N (qF M) a k
  have hc := dcN_len N (qF M) k
  repeat' first
    | (refine Go.mk ?_; conv => whnf)
    | refine Need.go ?_ ?_
    | refine NilG.go (fun _ => ?_) (fun _ => ?_)
    | refine Br.dec (fun _ => ?_) (fun _ => ?_)
    | refine Br.go (fun _ => ?_) (fun _ => ?_)
    | refine draw_go hT hP mixed ?_
    | refine round_go hT hP ?_
  all_goals first
    | exact hl
    | exact ⟨rfl, hl⟩
    | exact ⟨rfl, Nat.zero_le _, rfl⟩
    | exact Nat.zero_le _
    | exact ⟨of_decide_eq_true rfl, Nat.zero_le _⟩
    | exact ⟨of_decide_eq_true rfl, hdl⟩
    | exact ⟨by show (dwN N (qF M) a k).length ≤ _; rw [hw]; decide, hdl⟩
    | exact ⟨by show (dcN N (qF M) k).length ≤ _; rw [hc]; decide, hdl⟩
    | (exfalso; rename_i h; simp at h; done)
    | (refine .mk [] [] _ rfl rfl rfl rfl rfl rfl (imm_bool ?_)
       simp; done)
    | skip

end Go.Proofs.Ythpijepbbpcjeaa
