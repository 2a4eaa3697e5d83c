/- Part 7 of the proof: DriveActs Bit Ref Fw35 Fw37 PortLaw Port TimerLaw Timer Field GetPut Timer2 TimerTicks TimerActs SerialActs SoundLaw Sound. No statement is handed in here; conditions: none. -/
import Derived.Test.YtblnigjmcjpopaaG6
/- bakelaw1.DriveActs answers true, whatever it is given. -/
namespace Go.Proofs.Ytblnigjmcjpopaa
open Go.Fw
set_option linter.unusedVariables false
set_option linter.unusedSimpArgs false
set_option maxRecDepth 100000

abbrev e0 (N : List Int) (q : Nat) : Int := if N.getD 0 0 % 256 > q then 0 else N.getD 0 0 % 256
abbrev e1 (N : List Int) : Int := N.getD 1 0 % 4
abbrev e2 (N : List Int) : Int := if N.getD 2 0 % 8 > 4 then 0 else N.getD 2 0 % 8
abbrev e3 (N : List Int) : Int := N.getD 3 0 % 4
abbrev e4 (N : List Int) : Int := N.getD 4 0 % 16
abbrev e5 (N : List Int) : Int := N.getD 5 0 % 64
abbrev e6 (N : List Int) : Int := N.getD 6 0 % 256
abbrev e7 (N : List Int) : Int := N.getD 7 0 % 2
abbrev e8 (N : List Int) : Int := N.getD 8 0 % 2
abbrev e9 (N : List Int) : Int := N.getD 9 0 % 2
theorem dN_eq (N : List Int) (q : Nat) : dN N q = [e0 N q, e1 N, e2 N, e3 N, e4 N, e5 N, e6 N, e7 N, e8 N, e9 N] := rfl
theorem eR (N : List Int) (q : Nat) : (0 ≤ e0 N q ∧ e0 N q < 256) ∧ (0 ≤ e1 N ∧ e1 N < 4) ∧ (0 ≤ e2 N ∧ e2 N ≤ 4) ∧ (0 ≤ e3 N ∧ e3 N < 4) ∧ (0 ≤ e4 N ∧ e4 N < 16) ∧ (0 ≤ e5 N ∧ e5 N < 64) ∧ (0 ≤ e6 N ∧ e6 N < 256) ∧ (0 ≤ e7 N ∧ e7 N < 2) ∧ (0 ≤ e8 N ∧ e8 N < 2) ∧ (0 ≤ e9 N ∧ e9 N < 2) := by
  unfold e0 e1 e2 e3 e4 e5 e6 e7 e8 e9
  refine ⟨?_, ?_, ?_, ?_, ?_, ?_, ?_, ?_, ?_, ?_⟩
  · split <;> omega
  · omega
  · split <;> omega
  all_goals omega

theorem agg_ro {m m' : List Int} (h : m = m') : AV.agg [.own 0, .ro (.int .u8) m] = AV.agg [.own 0, .ro (.int .u8) m'] := by rw [h]
def dformedRS : PSpec := ⟨[gC, gD], fun (c, d, _) => (some (c.2.1 = 8 ∧ List.length d.2 ≤ 140737488355328), .agg [.own 0, .ro (.int .u8) (dM d.2)], [.arr (.int .i64) (dN d.1 (qF d.2))])⟩
def dformedR0S : PSpec := ⟨[gC, gD], fun (c, d, _) => (some (c.2.1 = 8 ∧ List.length d.2 ≤ 140737488355328 ∧ qF d.2 = 0), .agg [.own 0, .ro (.int .u8) []], [.arr (.int .i64) (dN d.1 (qF d.2))])⟩
theorem dformedR0_ok : GoodF Try.prog 54 dformedR0S.spec :=
  GoodF.map dformed0_ok fun (c, d, _) hp => ⟨hp, rfl, fun E v h => h.nil_ro⟩
def dformedR1S : PSpec := ⟨[gC, gD], fun (c, d, _) => (some (c.2.1 = 8 ∧ List.length d.2 ≤ 140737488355328 ∧ 0 < qF d.2), .agg [.own 0, .ro (.int .u8) (dM d.2)], [.arr (.int .i64) (dN d.1 (qF d.2))])⟩
theorem dformedR1_ok : GoodF Try.prog 54 dformedR1S.spec := by
  have hT := tab_ok (fs := [(117, formS.spec)]) tree_ok
  have hP : SpecsOk Try.prog (tab tree [(117, formS.spec)]) := specs_cons form_ok specs_nil
  refine dformedR1S.good (fn := Try.f54) hT hP Try.func54 (by kernel_rfl) rfl fun (c : Cv) (d : Dv) hp => ?_
  obtain ⟨cn, ck, cb, cs, cd⟩ := c
  obtain ⟨N, M⟩ := d
  obtain ⟨rfl, hl, h0⟩ : ck = 8 ∧ M.length ≤ 140737488355328 ∧ 0 < qF M := hp _ rfl
  have hq := qF_int M hl
  have hq2 := qF_le M
  have hm : over (List.replicate (IntKind.i64.wrap (IntKind.i64.wrap (Int.tdiv (M.length : Int) 256) * 256)).toNat 0) M 0 = dM M := by
    rw [hq]; exact over_take M hq2
  repeat' first
    | (refine Go.mk ?_; conv => whnf)
    | refine Need.go ?_ ?_
    | refine NilG.go (fun _ => ?_) (fun _ => ?_)
    | refine Br.dec (fun _ => ?_) (fun _ => ?_)
    | refine Br.go (fun _ => ?_) (fun _ => ?_)
    | refine draw_go hT hP mixed ?_
    | refine round_go hT hP ?_
  all_goals first
    | exact dmods_ok
    | exact of_decide_eq_true rfl
    | skip
  all_goals first
    | (exfalso; rename_i h; have h : ¬ IntKind.i64.wrap (IntKind.i64.wrap (Int.tdiv (M.length : Int) 256) * 256) > 0 := h; rw [hq] at h; omega)
    | (have e : ty5.bytes = 1 := rfl
       rw [e, show (List.length (N, M).2) = M.length from rfl, hq]; omega)
    | (rename_i h1 h2 h
       have h1 : IntKind.i64.wrap (N.getD 0 0 % 256 * 256) > IntKind.i64.wrap (IntKind.i64.wrap (Int.tdiv (M.length : Int) 256) * 256) := h1
       have h2 : N.getD 2 0 % 8 > 4 := h2
       rw [hq, w64 (by omega) (by omega)] at h1
       refine .mk [6] [5] _ rfl rfl rfl rfl rfl (blk_eqs (l := dL N 0 0) (l' := dN N (qF M)) ?_) (agg_ro hm)
       rw [dN_if, if_pos (by omega), if_pos h2]; rfl)
    | (rename_i h1 h2 h
       have h1 : IntKind.i64.wrap (N.getD 0 0 % 256 * 256) > IntKind.i64.wrap (IntKind.i64.wrap (Int.tdiv (M.length : Int) 256) * 256) := h1
       have h2 : ¬ N.getD 2 0 % 8 > 4 := h2
       rw [hq, w64 (by omega) (by omega)] at h1
       refine .mk [6] [5] _ rfl rfl rfl rfl rfl (blk_eqs (l := dL N 0 (N.getD 2 0 % 8)) (l' := dN N (qF M)) ?_) (agg_ro hm)
       rw [dN_if, if_pos (by omega), if_neg h2]; rfl)
    | (rename_i h1 h2 h
       have h1 : ¬ IntKind.i64.wrap (N.getD 0 0 % 256 * 256) > IntKind.i64.wrap (IntKind.i64.wrap (Int.tdiv (M.length : Int) 256) * 256) := h1
       have h2 : N.getD 2 0 % 8 > 4 := h2
       rw [hq, w64 (by omega) (by omega)] at h1
       refine .mk [6] [5] _ rfl rfl rfl rfl rfl (blk_eqs (l := dL N (N.getD 0 0 % 256) 0) (l' := dN N (qF M)) ?_) (agg_ro hm)
       rw [dN_if, if_neg (by omega), if_pos h2]; rfl)
    | (rename_i h1 h2 h
       have h1 : ¬ IntKind.i64.wrap (N.getD 0 0 % 256 * 256) > IntKind.i64.wrap (IntKind.i64.wrap (Int.tdiv (M.length : Int) 256) * 256) := h1
       have h2 : ¬ N.getD 2 0 % 8 > 4 := h2
       rw [hq, w64 (by omega) (by omega)] at h1
       refine .mk [6] [5] _ rfl rfl rfl rfl rfl (blk_eqs (l := dL N (N.getD 0 0 % 256) (N.getD 2 0 % 8)) (l' := dN N (qF M)) ?_) (agg_ro hm)
       rw [dN_if, if_neg (by omega), if_neg h2]; rfl)
theorem dformedR_ok : GoodF Try.prog 54 dformedRS.spec := by
  refine GoodF.cases dformedR0_ok dformedR1_ok fun (c, d, _) hp => ?_
  obtain ⟨hk, hl⟩ : c.2.1 = 8 ∧ List.length d.2 ≤ 140737488355328 := hp _ rfl
  by_cases h : qF d.2 = 0
  · left
    refine ⟨fun q hq => ?_, ?_⟩
    · injection hq with hq
      subst hq
      exact ⟨hk, hl, h⟩
    · have : dM d.2 = [] := by unfold dM; rw [h]; rfl
      show (AV.agg [.own 0, .ro (.int .u8) []], _) = (AV.agg [.own 0, .ro (.int .u8) (dM d.2)], _)
      rw [this]
  · right
    refine ⟨fun q hq => ?_, rfl⟩
    injection hq with hq
    subst hq
    exact ⟨hk, hl, Nat.pos_of_ne_zero h⟩

theorem or_bits4 (b : Bool) (f o : Int) (z : Bool) (h7 : 0 ≤ f ∧ f < 2) (h8 : 0 ≤ o ∧ o < 2) : lor .i64 (lor .i64 (lor .i64 (bitI b) (shl .i64 f 1)) (shl .i64 o 2)) (8 * bitI z) = bitI b + 2 * f + 4 * o + 8 * bitI z := by
  have a1 : f = 0 ∨ f = 1 := by omega
  have a2 : o = 0 ∨ o = 1 := by omega
  rcases a1 with rfl | rfl <;> rcases a2 with rfl | rfl <;> cases b <;> cases z <;> decide +kernel
theorem bitI_in (b : Bool) : 0 ≤ bitI b ∧ bitI b ≤ 1 := by cases b <;> decide
theorem imin_bit {x : Int} (h : 0 ≤ x) : imin 1 x = bitI (decide (x > 0)) := by
  rw [imin_eq]
  by_cases hx : x > 0
  · rw [decide_eq_true hx]; show min 1 x = 1; omega
  · rw [decide_eq_false hx]; show min 1 x = 0; omega
def drF (N : List Int) (q : Nat) (a : Int) : Int := pickF [bitI (decide (e2 N > 0)) + 2 * e7 N + 4 * e8 N + 8 * bitI (decide (e0 N q = 0)), e6 N, e1 N, e9 N] a
def drN (N : List Int) (q : Nat) (a : Int) : List Int := [e0 N q, e1 N, e2 N, e3 N, e4 N, e5 N, e6 N, if a = 1 ∧ ¬ e2 N = 4 then 0 else e7 N, if a = 0 then 0 else e8 N, e9 N]
def dreadS : PSpec := ⟨[gD, gi], fun (d, a, _) => (some (List.length d.2 ≤ 140737488355328), .tup [.agg [.own 0, .own 1], I1 (drF d.1 (qF d.2) a)], [.arr (.int .i64) (drN d.1 (qF d.2) a), .arr (.int .u8) (dM d.2)])⟩
theorem dread_ok : GoodF Try.prog 160 dreadS.spec := by
  have hT := tab_ok (fs := [(177, dfitS.spec), (195, busyS.spec)]) tree_ok
  have hP : SpecsOk Try.prog (tab tree [(177, dfitS.spec), (195, busyS.spec)]) := specs_cons dfit_ok (specs_cons busy_ok specs_nil)
  refine dreadS.good (fn := Try.f160) hT hP Try.func160 (by kernel_rfl) rfl fun (d : Dv) (a : Int) hp => ?_
  obtain ⟨N, M⟩ := d
  have hl : M.length ≤ 140737488355328 := hp _ rfl
  obtain ⟨r0, r1, r2, r3, r4, r5, r6, r7, r8, r9⟩ := eR N (qF M)
  have hor := or_bits4 (decide (e2 N > 0)) (e7 N) (e8 N) (decide (e0 N (qF M) = 0)) r7 r8
  rw [← imin_bit r2.1] at hor
  repeat' first
    | (refine Go.mk ?_; conv => whnf)
    | refine Need.go ?_ ?_
    | refine NilG.go (fun _ => ?_) (fun _ => ?_)
    | refine Br.dec (fun _ => ?_) (fun _ => ?_)
    | refine Br.go (fun _ => ?_) (fun _ => ?_)
    | refine draw_go hT hP mixed ?_
    | refine round_go hT hP ?_
  all_goals (try subst_vars)
  all_goals first
    | exact rfl
    | exact hl
    | exact of_decide_eq_true rfl
    | exact .mk [] [2, 3] _ rfl rfl rfl rfl rfl rfl rfl
    | skip
  · rename_i h
    have h : e0 N (qF M) = 0 := h
    refine .mk [] [2, 3] _ rfl rfl rfl rfl rfl rfl (tup_r2 ?_)
    show lor .i64 (lor .i64 (lor .i64 (imin 1 (e2 N)) (shl .i64 (e7 N) 1)) (shl .i64 (e8 N) 2)) 8 = bitI (decide (e2 N > 0)) + 2 * e7 N + 4 * e8 N + 8 * bitI (decide (e0 N (qF M) = 0))
    rw [← imin_bit r2.1]
    rw [decide_eq_true h] at hor ⊢
    exact hor
  · rename_i h
    have h : ¬ e0 N (qF M) = 0 := h
    refine .mk [] [2, 3] _ rfl rfl rfl rfl rfl rfl (tup_r2 ?_)
    show lor .i64 (lor .i64 (lor .i64 (imin 1 (e2 N)) (shl .i64 (e7 N) 1)) (shl .i64 (e8 N) 2)) 0 = bitI (decide (e2 N > 0)) + 2 * e7 N + 4 * e8 N + 8 * bitI (decide (e0 N (qF M) = 0))
    rw [← imin_bit r2.1]
    rw [decide_eq_false h] at hor ⊢
    exact hor
  · rename_i h _
    have h : (e2 N != 4) = true := h
    have h : ¬ e2 N = 4 := by simpa using h
    refine .mk [] [2, 3] _ rfl rfl rfl rfl rfl (blk2_eq (l := [e0 N (qF M), e1 N, e2 N, e3 N, e4 N, e5 N, e6 N, 0, e8 N, e9 N]) (l' := drN N (qF M) 1) ?_ rfl) rfl
    rw [drN, if_pos ⟨rfl, h⟩]; rfl
  · rename_i h _
    have h : (e2 N != 4) = false := h
    have h : e2 N = 4 := by simpa using h
    refine .mk [] [2, 3] _ rfl rfl rfl rfl rfl (blk2_eq (l := dN N (qF M)) (l' := drN N (qF M) 1) ?_ rfl) rfl
    rw [dN_eq, drN, if_neg (fun z => z.2 h)]; rfl
  · rename_i g0 g1 g2 g3
    have e : drF N (qF M) a = 0 := pick_no fun i hi => by
      have : i < 4 := hi
      omega
    refine .mk [] [2, 3] _ rfl rfl rfl rfl rfl (blk2_eq (l := dN N (qF M)) (l' := drN N (qF M) a) ?_ rfl) (tup_r2 e.symm)
    rw [dN_eq, drN, if_neg (fun z => g1 z.1), if_neg g0]

theorem tup_ro {x y : Int} {m : List Int} (h : x = y) : AV.tup [.agg [.own 0, .ro (.int .u8) m], I1 x] = AV.tup [.agg [.own 0, .ro (.int .u8) m], I1 y] := by rw [h]
def dloadedS : PSpec := ⟨[gC, gD, gi], fun (c, d, a, _) => (some (c.2.1 = 8 ∧ List.length d.2 ≤ 140737488355328), .tup [.agg [.own 0, .ro (.int .u8) (dM d.2)], I1 (drF d.1 (qF d.2) a)], [.arr (.int .i64) (drN d.1 (qF d.2) a)])⟩
def beginF (n : List Int) (k : Int) : List Int :=
  if n.getD 2 0 > 0 ∨ k % 16 = 0 ∨ k % 16 > 4 ∨ (k % 16 > 2 ∧ n.getD 0 0 = 0) then n
  else ((((n.set 2 (k % 16)).set 3 (k / 16 % 4)).set 4 0).set 5 30).set 7 (bitI (decide (k % 16 = 4)))
theorem set_twice (n : List Int) (i : Nat) (x y : Int) : (n.set i x).set i y = n.set i y := by simp
theorem byte_ops {k : Int} (h : 0 ≤ k ∧ k < 256) : land .i64 k 15 = k % 16 ∧ land .i64 (shr .i64 k 4) 3 = k / 16 % 4 := by
  have all : ∀ n, n < 256 → land .i64 ((n : Nat) : Int) 15 = ((n : Nat) : Int) % 16 ∧ land .i64 (shr .i64 ((n : Nat) : Int) 4) 3 = ((n : Nat) : Int) / 16 % 4 := by decide +kernel
  obtain ⟨n, rfl⟩ := Int.eq_ofNat_of_zero_le h.1
  exact all n (by omega)
theorem begin_no {n : List Int} {k : Int} (h : n.getD 2 0 > 0 ∨ k % 16 = 0 ∨ k % 16 > 4 ∨ (k % 16 > 2 ∧ n.getD 0 0 = 0)) : beginF n k = n := by rw [beginF, if_pos h]
theorem begin_yes {n : List Int} {k : Int} (h : ¬ (n.getD 2 0 > 0 ∨ k % 16 = 0 ∨ k % 16 > 4 ∨ (k % 16 > 2 ∧ n.getD 0 0 = 0))) : beginF n k = ((((n.set 2 (k % 16)).set 3 (k / 16 % 4)).set 4 0).set 5 30).set 7 (bitI (decide (k % 16 = 4))) := by rw [beginF, if_neg h]
theorem set6 (n : List Int) (k : Int) : (n.set 6 k).getD 2 0 = n.getD 2 0 := by simp [List.getD_eq_getElem?_getD]
def beginS : WSpec := ⟨List Int × Int, fun x => [.c (.own 0), I1 x.2], fun x => [.arr (.int .i64) x.1], fun a b => (match a, b with | [.c (.own 0), .c (.imm (.int .i64 k))], [.arr (.int .i64) n] => some (n, k) | _, _ => none),
  fun x => (some (x.1.length = 10 ∧ 0 ≤ x.1.getD 2 0 ∧ 0 ≤ x.2 ∧ x.2 < 256), .tup [], [some (.arr (.int .i64) (beginF x.1 x.2))], [])⟩
theorem begin_ok : GoodF Try.prog 196 beginS.spec := by
  have hT := tab_ok (fs := []) tree_ok
  have hP : SpecsOk Try.prog (tab tree []) := specs_nil
  refine beginS.good (fn := Try.f196) hT hP Try.func196 (by kernel_rfl) rfl ?_ fun ((n, k) : List Int × Int) hp => ?_
  · intro a b x h
    simp only [beginS] at h
    split at h
    · injection h with h; subst h; exact ⟨rfl, rfl⟩
    · cases h
  obtain ⟨hl, h2, hk⟩ : n.length = 10 ∧ 0 ≤ n.getD 2 0 ∧ 0 ≤ k ∧ k < 256 := hp _ rfl
  obtain ⟨b1, b2⟩ := byte_ops hk
  repeat' first
    | (refine Go.mk ?_; conv => whnf)
    | refine Need.go ?_ ?_
    | refine NilG.go (fun _ => ?_) (fun _ => ?_)
    | refine Br.dec (fun _ => ?_) (fun _ => ?_)
    | refine Br.go (fun _ => ?_) (fun _ => ?_)
    | refine draw_go hT hP mixed ?_
    | refine round_go hT hP ?_
  all_goals first
    | (dsimp only at *; simp only [List.length_set, hl]; decide)
    | skip
  · rename_i g2
    have g2 : n.getD 2 0 > 0 := g2
    refine .mk [] [0] _ rfl rfl rfl rfl rfl (blk_eqs (l := n) (l' := beginF n k) ?_) rfl
    exact (begin_no (.inl g2)).symm
  · rename_i g2 g3
    have g2 : ¬ n.getD 2 0 > 0 := g2
    have g3 : land .i64 k 15 < 1 := g3; rw [b1] at g3
    refine .mk [] [0] _ rfl rfl rfl rfl rfl (blk_eqs (l := n) (l' := beginF n k) ?_) rfl
    exact (begin_no (by omega)).symm
  · rename_i g2 g3 g4
    have g2 : ¬ n.getD 2 0 > 0 := g2
    have g3 : ¬ land .i64 k 15 < 1 := g3; rw [b1] at g3
    have g4 : land .i64 k 15 > 4 := g4; rw [b1] at g4
    refine .mk [] [0] _ rfl rfl rfl rfl rfl (blk_eqs (l := n) (l' := beginF n k) ?_) rfl
    exact (begin_no (by omega)).symm
  · rename_i g2 g3 g4 g5 g6
    have g2 : ¬ n.getD 2 0 > 0 := g2
    have g3 : ¬ land .i64 k 15 < 1 := g3; rw [b1] at g3
    have g4 : ¬ land .i64 k 15 > 4 := g4; rw [b1] at g4
    have g5 : land .i64 k 15 ≥ 3 := g5; rw [b1] at g5
    have g6 : n.getD 0 0 = 0 := g6
    refine .mk [] [0] _ rfl rfl rfl rfl rfl (blk_eqs (l := n) (l' := beginF n k) ?_) rfl
    exact (begin_no (by omega)).symm
  · decide
  · rename_i g2 g3 g4 g5 g6 g7
    have g2 : ¬ n.getD 2 0 > 0 := g2
    have g3 : ¬ land .i64 k 15 < 1 := g3; rw [b1] at g3
    have g4 : ¬ land .i64 k 15 > 4 := g4; rw [b1] at g4
    have g5 : land .i64 k 15 ≥ 3 := g5; rw [b1] at g5
    have g6 : ¬ n.getD 0 0 = 0 := g6
    have g7 : land .i64 k 15 = 4 := g7; rw [b1] at g7
    refine .mk [] [0] _ rfl rfl rfl rfl rfl (blk_eqs (l := ((((((n.set 2 (land .i64 k 15)).set 3 (land .i64 (shr .i64 k 4) 3)).set 4 0).set 5 30)).set 7 0).set 7 1) (l' := beginF n k) ?_) rfl
    rw [begin_yes (by omega), b1, b2, decide_eq_true g7, set_twice]; rfl
  · rename_i g2 g3 g4 g5 g6 g7
    have g2 : ¬ n.getD 2 0 > 0 := g2
    have g3 : ¬ land .i64 k 15 < 1 := g3; rw [b1] at g3
    have g4 : ¬ land .i64 k 15 > 4 := g4; rw [b1] at g4
    have g5 : land .i64 k 15 ≥ 3 := g5; rw [b1] at g5
    have g6 : ¬ n.getD 0 0 = 0 := g6
    have g7 : ¬ land .i64 k 15 = 4 := g7; rw [b1] at g7
    refine .mk [] [0] _ rfl rfl rfl rfl rfl (blk_eqs (l := (((((n.set 2 (land .i64 k 15)).set 3 (land .i64 (shr .i64 k 4) 3)).set 4 0).set 5 30)).set 7 0) (l' := beginF n k) ?_) rfl
    rw [begin_yes (by omega), b1, b2, decide_eq_false g7]; rfl
  · decide
  · rename_i g2 g3 g4 g5 g7
    have g2 : ¬ n.getD 2 0 > 0 := g2
    have g3 : ¬ land .i64 k 15 < 1 := g3; rw [b1] at g3
    have g4 : ¬ land .i64 k 15 > 4 := g4; rw [b1] at g4
    have g5 : ¬ land .i64 k 15 ≥ 3 := g5; rw [b1] at g5
    have g7 : land .i64 k 15 = 4 := g7; rw [b1] at g7
    refine .mk [] [0] _ rfl rfl rfl rfl rfl (blk_eqs (l := ((((((n.set 2 (land .i64 k 15)).set 3 (land .i64 (shr .i64 k 4) 3)).set 4 0).set 5 30)).set 7 0).set 7 1) (l' := beginF n k) ?_) rfl
    rw [begin_yes (by omega), b1, b2, decide_eq_true g7, set_twice]; rfl
  · rename_i g2 g3 g4 g5 g7
    have g2 : ¬ n.getD 2 0 > 0 := g2
    have g3 : ¬ land .i64 k 15 < 1 := g3; rw [b1] at g3
    have g4 : ¬ land .i64 k 15 > 4 := g4; rw [b1] at g4
    have g5 : ¬ land .i64 k 15 ≥ 3 := g5; rw [b1] at g5
    have g7 : ¬ land .i64 k 15 = 4 := g7; rw [b1] at g7
    refine .mk [] [0] _ rfl rfl rfl rfl rfl (blk_eqs (l := (((((n.set 2 (land .i64 k 15)).set 3 (land .i64 (shr .i64 k 4) 3)).set 4 0).set 5 30)).set 7 0) (l' := beginF n k) ?_) rfl
    rw [begin_yes (by omega), b1, b2, decide_eq_false g7]; rfl

def commandF (n : List Int) (a k : Int) : List Int :=
  if a = 0 then beginF n k else if a = 1 then (if n.getD 2 0 = 4 then (n.set 6 k).set 7 0 else n.set 6 k) else if a = 3 then n.set 9 (k % 2) else n
def commandS : WSpec := ⟨List Int × Int × Int, fun x => [.c (.own 0), I1 x.2.1, I1 x.2.2], fun x => [.arr (.int .i64) x.1], fun a b => (match a, b with | [.c (.own 0), .c (.imm (.int .i64 a)), .c (.imm (.int .i64 k))], [.arr (.int .i64) n] => some (n, a, k) | _, _ => none),
  fun x => (some (x.1.length = 10 ∧ 0 ≤ x.1.getD 2 0 ∧ 0 ≤ x.2.2 ∧ x.2.2 < 256), .tup [], [some (.arr (.int .i64) (commandF x.1 x.2.1 x.2.2))], [])⟩
def dwN (N : List Int) (q : Nat) (a k : Int) : List Int := commandF (dN N q) a (k % 256)
def dwriteS : PSpec := ⟨[gD, gi, gi], fun (d, a, k, _) => (some (List.length d.2 ≤ 140737488355328), .agg [.own 0, .own 1], [.arr (.int .i64) (dwN d.1 (qF d.2) a k), .arr (.int .u8) (dM d.2)])⟩
theorem dwrite_ok : GoodF Try.prog 167 dwriteS.spec := by
  have hT := tab_ok (fs := [(177, dfitS.spec), (196, beginS.spec), (70, lowM.spec)]) tree_ok
  have hP : SpecsOk Try.prog (tab tree [(177, dfitS.spec), (196, beginS.spec), (70, lowM.spec)]) := specs_cons dfit_ok (specs_cons begin_ok (specs_cons lowM_ok specs_nil))
  refine dwriteS.good (fn := Try.f167) hT hP Try.func167 (by kernel_rfl) rfl fun (d : Dv) (a k : Int) hp => ?_
  obtain ⟨N, M⟩ := d
  have hl : M.length ≤ 140737488355328 := hp _ rfl
  obtain ⟨r0, r1, r2, r3, r4, r5, r6, r7, r8, r9⟩ := eR N (qF M)
  repeat' first
    | (refine Go.mk ?_; conv => whnf)
    | refine Need.go ?_ ?_
    | refine NilG.go (fun _ => ?_) (fun _ => ?_)
    | refine Br.dec (fun _ => ?_) (fun _ => ?_)
    | refine Br.go (fun _ => ?_) (fun _ => ?_)
    | refine draw_go hT hP mixed ?_
    | refine round_go hT hP ?_
  all_goals (try subst_vars)
  all_goals first
    | exact rfl
    | exact hl
    | exact of_decide_eq_true rfl
    | exact .mk [] [2, 3] _ rfl rfl rfl rfl rfl rfl rfl
    | skip
  · refine ⟨rfl, r2.1, ?_, ?_⟩
    · exact (by omega : 0 ≤ k % 256)
    · exact (by omega : k % 256 < 256)
  · rename_i h _
    have h : (dN N (qF M)).getD 2 0 = 4 := h
    refine .mk [] [2, 3] _ rfl rfl rfl rfl rfl (blk2_eq (l := ((dN N (qF M)).set 6 (k % 256)).set 7 0) (l' := dwN N (qF M) 1 k) ?_ rfl) rfl
    rw [dwN, commandF, if_neg (by omega), if_pos rfl, if_pos h]
  · rename_i h _
    have h : ¬ (dN N (qF M)).getD 2 0 = 4 := h
    refine .mk [] [2, 3] _ rfl rfl rfl rfl rfl (blk2_eq (l := (dN N (qF M)).set 6 (k % 256)) (l' := dwN N (qF M) 1 k) ?_ rfl) rfl
    rw [dwN, commandF, if_neg (by omega), if_pos rfl, if_neg h]
  · refine .mk [] [2, 3] _ rfl rfl rfl rfl rfl (blk2_eq (l := (dN N (qF M)).set 9 (k % 2 ^ (1 : Int).toNat)) (l' := dwN N (qF M) 3 k) ?_ rfl) rfl
    rw [dwN, commandF, if_neg (by omega), if_neg (by omega), if_pos rfl]
    have e : k % 256 % 2 = k % 2 := by omega
    rw [e]; rfl
  · rename_i g0 g1 g2
    refine .mk [] [2, 3] _ rfl rfl rfl rfl rfl (blk2_eq (l := dN N (qF M)) (l' := dwN N (qF M) a k) ?_ rfl) rfl
    rw [dwN, commandF, if_neg g0, if_neg g1, if_neg g2]

def dstoredS : PSpec := ⟨[gC, gD, gi, gi], fun (c, d, a, k, _) => (some (c.2.1 = 8 ∧ List.length d.2 ≤ 140737488355328), .agg [.own 0, .ro (.int .u8) (dM d.2)], [.arr (.int .i64) (dwN d.1 (qF d.2) a k)])⟩
def dcN (N : List Int) (q : Nat) (k : Int) : List Int := if e2 N = 0 then [if k > 0 ∧ k ≤ q then k % 256 else 0, e1 N, e2 N, e3 N, e4 N, e5 N, e6 N, e7 N, e8 N, e9 N] else dN N q
def dchangeS : PSpec := ⟨[gD, gi], fun (d, k, _) => (some (List.length d.2 ≤ 140737488355328), .agg [.own 0, .own 1], [.arr (.int .i64) (dcN d.1 (qF d.2) k), .arr (.int .u8) (dM d.2)])⟩
def dgivenS : PSpec := ⟨[gC, gD, gi], fun (c, d, k, _) => (some (c.2.1 = 8 ∧ List.length d.2 ≤ 140737488355328), .agg [.own 0, .ro (.int .u8) (dM d.2)], [.arr (.int .i64) (dcN d.1 (qF d.2) k)])⟩
def dirqF (N : List Int) : Bool := decide (e9 N = 1) && decide (e7 N = 1)
def dirqS : PSpec := ⟨[gD], fun (d, _) => (some (List.length d.2 ≤ 140737488355328), .cell (bv (dirqF d.1)), [])⟩
def daskS : PSpec := ⟨[gC, gD], fun (c, d, _) => (some (c.2.1 = 8 ∧ List.length d.2 ≤ 140737488355328), .cell (bv (dirqF d.1)), [])⟩
def doutS : PSpec := ⟨[gD], fun (d, _) => (some (List.length d.2 ≤ 140737488355328), I (e1 d.1), [])⟩
def dshowsS : PSpec := ⟨[gC, gD], fun (c, d, _) => (some (c.2.1 = 8 ∧ List.length d.2 ≤ 140737488355328), I (e1 d.1), [])⟩
def dnextF (N : List Int) : Int := if e2 N = 0 then 100000 else max 1 (e5 N) - 1
def dnextS : PSpec := ⟨[gD], fun (d, _) => (some (List.length d.2 ≤ 140737488355328), I (dnextF d.1), [])⟩
def drestsS : PSpec := ⟨[gC, gD], fun (c, d, _) => (some (c.2.1 = 8 ∧ List.length d.2 ≤ 140737488355328), I (dnextF d.1), [])⟩
def daS : PSpec := ⟨[gD, gi, gi], fun (d, a, k, _) => (some (List.length d.2 ≤ 140737488355328), .cell (bv true), [])⟩
theorem dcN_len (N : List Int) (q : Nat) (k : Int) : (dcN N q k).length = 10 := by unfold dcN; split <;> rfl
theorem beginF_len (n : List Int) (k : Int) : (beginF n k).length = n.length := by unfold beginF; split <;> simp
theorem dwN_len (N : List Int) (q : Nat) (a k : Int) : (dwN N q a k).length = 10 := by
  unfold dwN commandF
  split
  · rw [beginF_len]; rfl
  · split
    · split <;> simp [dN]
    · split <;> simp [dN]
end Go.Proofs.Ytblnigjmcjpopaa

/- The functions of package bit that add, and bakelaw1.bits. -/
namespace Go.Proofs.Ytblnigjmcjpopaa
open Go.Fw
set_option linter.unusedVariables false
set_option linter.unusedSimpArgs false
set_option maxRecDepth 100000

def addF (a b c n : Int) : Int × Int :=
  let s := IntKind.i64.wrap (IntKind.i64.wrap (lowF a (widthF n) + lowF b (widthF n)) + land .i64 c 1)
  (lowF s (widthF n), shr .i64 s (widthF n))
def addS : PSpec := ⟨[gi, gi, gi, gi], fun (a, b, c, n, _) => (none, .tup [I1 (addF a b c n).1, I1 (addF a b c n).2], [])⟩
theorem add_ok : GoodF Try.prog 180 addS.spec := by
  have hT := tab_ok (fs := [(135, widthS.spec), (70, lowS.spec)]) tree_ok
  have hP : SpecsOk Try.prog (tab tree [(135, widthS.spec), (70, lowS.spec)]) := specs_cons width_ok (specs_cons low_ok specs_nil)
  refine addS.good (fn := Try.f180) hT hP Try.func180 (by kernel_rfl) rfl fun (a b c n : Int) _ => ?_
  repeat' first
    | (refine Go.mk ?_; conv => whnf)
    | refine Need.go ?_ ?_
    | refine Br.dec (fun _ => ?_) (fun _ => ?_)
    | refine Br.go (fun _ => ?_) (fun _ => ?_)
    | refine draw_go hT hP mixed ?_
  · show 0 ≤ widthF n
    simp only [widthF, imax_eq]; omega
  · exact .mk [] [] _ rfl rfl rfl rfl rfl rfl rfl

def bitsS : PSpec := ⟨[], fun _ => (none, .cell (bv true), [])⟩
theorem addF_0 : addF 200 100 0 8 = (44, 1) := by decide +kernel
end Go.Proofs.Ytblnigjmcjpopaa

/- Numbers as lists of digits: bakeref1's Digits2, Of2, limit. -/
namespace Go.Proofs.Ytblnigjmcjpopaa
open Go.Fw
set_option linter.unusedVariables false
set_option linter.unusedSimpArgs false
set_option maxRecDepth 100000

def limitF (a b c : Int) : Int := if a < b then b else if a > c then c else a
def limitS : PSpec := ⟨[gi, gi, gi], fun (a, b, c, _) => (none, I (limitF a b c), [])⟩
theorem limit_ok : GoodF Try.prog 95 limitS.spec := by
  have hT := tab_ok (fs := []) tree_ok
  have hP : SpecsOk Try.prog (tab tree []) := specs_nil
  refine limitS.good (fn := Try.f95) hT hP Try.func95 (by kernel_rfl) rfl fun (a b c : Int) _ => ?_
  repeat' first
    | (refine Go.mk ?_; conv => whnf)
    | refine Need.go ?_ ?_
    | refine Br.dec (fun _ => ?_) (fun _ => ?_)
    | refine Br.go (fun _ => ?_) (fun _ => ?_)
  · refine .mk [] [] _ rfl rfl rfl rfl rfl rfl (imm_int ?_)
    show _ = limitF a b c
    unfold limitF
    rw [if_pos (by assumption)]
  · refine .mk [] [] _ rfl rfl rfl rfl rfl rfl (imm_int ?_)
    show _ = limitF a b c
    unfold limitF
    rw [if_neg (by assumption), if_pos (by assumption)]
  · refine .mk [] [] _ rfl rfl rfl rfl rfl rfl (imm_int ?_)
    show _ = limitF a b c
    unfold limitF
    rw [if_neg (by assumption), if_neg (by assumption)]

def digitF (n : Int) (i : Int) : Int := IntKind.i64.wrap (land .u64 (shr .u64 (IntKind.u64.wrap n) i) 1)
def digF (n : Int) (k : Nat) : List Int := (List.range k).map fun (i : Nat) => digitF n i
def dig2F (a b : Int) : List Int := digF a (limitF b 0 62).toNat
def digS : PSpec := ⟨[gi, gi], fun (a, b, _) => (none, .cell (.own 0), [.arr (.int .i64) (dig2F a b)])⟩
theorem limitF_in (b : Int) : 0 ≤ limitF b 0 62 ∧ limitF b 0 62 ≤ 62 := by
  unfold limitF; (split <;> try split) <;> omega
theorem digF_succ (a i : Int) (h : 0 ≤ i) : digF a i.toNat ++ [digitF a i] = digF a (i + 1).toNat := by
  have e : (i + 1).toNat = i.toNat + 1 := by omega
  have e2 : ((i.toNat : Nat) : Int) = i := by omega
  rw [e]
  simp only [digF, List.range_succ, List.map_append, List.map_cons, List.map_nil, e2]
def of2F (l : List Int) : Int := l.foldr (fun d n => IntKind.i64.wrap (IntKind.i64.wrap (2 * n) + d)) 0
def of2S : PSpec := ⟨[gl], fun (l, _) => (some (List.length l ≤ 1000000000000), I (of2F l), [])⟩
end Go.Proofs.Ytblnigjmcjpopaa

/- More weakening: a nil slice taken for data; loops that count upwards. -/
namespace Go.Fw
set_option linter.unusedVariables false
set_option linter.unusedSimpArgs false

theorem CellR.nil_ro {E : Env} (t : Ty) {vs : List Value} (h : CellR E (.imm (.slice none 0 0)) vs) : CellR E (.ro t []) vs := by
  obtain ⟨e, _⟩ := h
  exact ⟨_, e, none, 0, rfl, Nat.le_refl _, fun hne => absurd rfl hne⟩

/-- a nil slice in a slot, taken for data -/
theorem Le.nilro {m : Nat} {st : St} (i : Nat) (t : Ty) (h : st.tmps[i]? = some (.imm (.slice none 0 0))) : Le m st { tmps := st.tmps.set i (.cell (.ro t [])), heap := st.heap } := by
  intro E0 E a hm hs hf
  refine ⟨E, rfl, ⟨hs.defers, ?_, fun j y hy => ?_, hs.ok, hs.H, hs.U⟩, hf⟩
  · simpa using hs.len
  · have hy : (st.tmps.set i (.cell (.ro t [])))[j]? = some y := hy
    rw [List.getElem?_set] at hy
    by_cases e : i = j
    · subst e
      obtain ⟨v, h1, h2⟩ := hs.tmp i _ h
      rw [if_pos rfl, if_pos (List.getElem?_eq_some_iff.1 h).1] at hy
      injection hy with hy
      subst hy
      exact ⟨v, h1, CellR.nil_ro t h2⟩
    · rw [if_neg e] at hy
      exact hs.tmp j y hy

/-- cells that say the same, or a nil slice taken for data -/
def cellN (c d : Cell) : Prop := c = d ∨ (c = .imm (.slice none 0 0) ∧ ∃ t, d = .ro t [])
def cellsN : List Cell → List Cell → Prop
  | [], [] => True
  | c :: cs, d :: ds => cellN c d ∧ cellsN cs ds
  | _, _ => False
theorem cellsN_size : ∀ {cs ds : List Cell}, cellsN cs ds → ds.map Cell.size = cs.map Cell.size
  | [], [], _ => rfl
  | c :: cs, d :: ds, ⟨h1, h2⟩ => by
    simp only [List.map_cons, cellsN_size h2]
    rcases h1 with rfl | ⟨rfl, t, rfl⟩ <;> rfl
  | [], _ :: _, h => h.elim
  | _ :: _, [], h => h.elim
theorem cellsN_rel {E : Env} : ∀ {cs ds : List Cell} {vs : List Value}, cellsN cs ds → IR E cs vs → IR E ds vs
  | [], [], _, _, h => h
  | c :: cs, d :: ds, _, ⟨h1, h2⟩, ⟨r, s, e, g1, g2⟩ => by
    refine ⟨r, s, e, ?_, cellsN_rel h2 g2⟩
    rcases h1 with rfl | ⟨rfl, t, rfl⟩
    · exact g1
    · exact CellR.nil_ro t g1
  | [], _ :: _, _, h, _ => h.elim
  | _ :: _, [], _, h, _ => h.elim
theorem setAt_same {α : Type} : ∀ (l : List (Option Blk)) (b : Nat) (o : Option Blk) (j : Nat), b < l.length → (setAt l b o)[j]? = if j = b then some o else l[j]?
  | _ :: r, 0, o, j, _ => by cases j <;> simp [setAt]
  | x :: r, b + 1, o, j, h => by
    cases j with
    | zero => simp [setAt]
    | succ j =>
      have := setAt_same (α := α) r b o j (by simpa using h)
      simpa [setAt] using this
theorem setAt_len : ∀ (l : List (Option Blk)) (b : Nat) (o : Option Blk), b < l.length → (setAt l b o).length = l.length
  | _ :: r, 0, o, _ => by simp [setAt]
  | x :: r, b + 1, o, h => by simpa [setAt] using setAt_len r b o (by simpa using h)

/-- nil slices in a variable, taken for data -/
theorem Le.nilroH {m : Nat} {st : St} (b : Nat) (cs ds : List Cell) (h : st.heap[b]? = some (some (.var cs))) (hn : cellsN cs ds) : Le m st { tmps := st.tmps, heap := setAt st.heap b (some (.var ds)) } := by
  intro E0 E a hm hs hf
  have hlt : b < st.heap.length := (List.getElem?_eq_some_iff.1 h).1
  have hlook : st.look b = some (.var cs) := by unfold St.look; rw [h]
  have hb : E.H b = some (.var cs) := (hs.H b).trans hlook
  obtain ⟨hu, ⟨g, ca, el, hr, hw, hir⟩, hS⟩ := hs.ok.blk b _ hb
  have hsh : shape (.var ds) = shape (.var cs) := by simp only [shape]; rw [cellsN_size hn]
  have hwr : Writes E g ca ca el E.w :=
     ⟨hw, hw, rfl, fun _ _ => rfl, rfl, rfl, rfl, rfl⟩
  refine ⟨setE E b (.var ds) E.w, rfl, ⟨hs.defers, hs.len, fun j y hy => ?_, setE_ok hs.ok hb hr hsh hwr (cellsN_rel hn hir), fun x => ?_, fun x hx => ?_⟩, ?_⟩
  · obtain ⟨v, h1, h2⟩ := hs.tmp j y hy
    exact ⟨v, h1, h2.ext (setE_ext hs.ok hb hr hsh hwr)⟩
  · show (if x = b then some (.var ds) else E.H x) = St.look { tmps := st.tmps, heap := setAt st.heap b (some (.var ds)) } x
    unfold St.look
    rw [setAt_same (α := Nat) _ _ _ _ hlt]
    split
    · rfl
    · exact hs.H x
  · have := hs.U x hx
    simpa [setAt_len _ _ _ hlt] using this
  · exact ⟨setE_fr hs.ok hb hr hwr hf.fr, hf.ext.trans (setE_ext hs.ok hb hr hsh hwr)⟩

section
variable {P : Program} {T : Tab}
/-- a loop that counts upwards to n -/
theorem up_go (hT : TabOk P T) (hP : SpecsOk P T) {A : Type} {m : Nat} {c : Code} {st : St} {K : Cont} (n : Nat) (S : Int → A → St) (I : Nat → A → Prop) (a0 : A) (h0 : Le m st (S 0 a0)) (hI : I 0 a0)
    (h : ∀ (k : Nat) a, k ≤ n → I k a → Go (fState (S (k : Int) a) fun st => exR P T m c st fun e st' => match e with | .normal => ∃ i' a', (k < n ∧ i' = ((k + 1 : Nat) : Int) ∧ I (k + 1) a') ∧ Le m st' (S i' a') | e => K e st')) : LoopG P m c st K := by
  refine loop_rule (X := Nat × A) (fun x => S (x.1 : Int) x.2) (fun x => x.1 ≤ n ∧ I x.1 x.2) (fun x => n - x.1) (0, a0) h0 ⟨Nat.zero_le _, hI⟩ fun x hx => ?_
  refine Does.mono (does_go hT hP (h x.1 x.2 hx.1 hx.2)) fun e st' hk => ?_
  cases e with
  | normal =>
    obtain ⟨i', a', ⟨hlt, e, hi⟩, hle⟩ := hk
    subst e
    exact ⟨(x.1 + 1, a'), ⟨hlt, hi⟩, by show n - (x.1 + 1) < n - x.1; omega, hle⟩
  | _ => exact hk
end
end Go.Fw

/- Contracts of functions that only read and are handed a function, last of all. -/
namespace Go.Fw
set_option linter.unusedVariables false
set_option linter.unusedSimpArgs false

structure FSpec where
  gs : List Sig
  out : Args gs → Nat → Option Prop × AV × List Blk

def decF : (gs : List Sig) → List V1 → Option (Args gs × Nat)
  | [], l => match l with
    | [.c (.fn g [])] => some ((), g)
    | _ => none
  | g :: gs, l => match l with
    | x :: xs => match decV g x with
      | some d => (match decF gs xs with | some (r, f) => some ((d, r), f) | none => none)
      | none => none
    | [] => none
def canonF (f : Nat) : (gs : List Sig) → Args gs → List V1
  | [], _ => [.c (.fn f [])]
  | g :: gs, (a, r) => canonV g a :: canonF f gs r

def FSpec.spec (s : FSpec) : CSpec := { wr := false, run := fun args bl => match bl with
  | [] => match decF s.gs args with
    | some (xs, f) => some ((s.out xs f).1, (s.out xs f).2.1, [], (s.out xs f).2.2)
    | none => none
  | _ :: _ => none }

theorem decF_rel {E : Env} (hH : HeapOk E) (hn : ∀ b, E.H b = none) : ∀ {gs : List Sig} {xs : List V1} {ds : Args gs} {f : Nat} {vs : List Value}, decF gs xs = some (ds, f) → VsR E xs vs → VsR E (canonF f gs ds) vs
  | [], xs, ds, f, vs, h, hv => by
    unfold decF at h
    split at h
    · injection h with h
      injection h with h1 h2
      subst h2
      exact hv
    · cases h
  | g :: gs, [], ds, f, vs, h, hv => by simp [decF] at h
  | g :: gs, x :: xs, ds, f, vs, h, ⟨v, r, e, h1, h2⟩ => by
    unfold decF at h
    simp only at h
    split at h
    · rename_i d hd
      split at h
      · rename_i rs f' hr
        injection h with h
        injection h with e1 e2
        subst e1
        subst e2
        exact ⟨v, r, e, decV_rel hH hn hd h1, decF_rel hH hn hr h2⟩
      · cases h
    · cases h

theorem FSpec.good {P : Program} {T : Tab} {f : FuncId} {fn : Func} (hT : TabOk P T) (hP : SpecsOk P T) (hf : P.funcs[f]? = some fn) (hn : (fn.name == "runtime.NumGoroutine") = false) (s : FSpec) (hb : fn.body.isSome = true)
    (h : AllArgs s.gs fun xs => ∀ g : Nat, (∀ q, (s.out xs g).1 = some q → q) → Go (startR P T fn (canonF g s.gs xs) [] (s.out xs g).2.1 [] (s.out xs g).2.2)) : GoodF P f s.spec := by
  refine ⟨?_, fn, hf, hn, hb⟩
  obtain ⟨c, hc⟩ := Option.isSome_iff_exists.1 hb
  refine fn_sound hT hf hc _ fun args bl p r upd fresh hrun hp => ?_
  unfold FSpec.spec at hrun
  simp only at hrun
  split at hrun
  · split at hrun
    · rename_i xs g hxs
      simp only [Option.some.injEq, Prod.mk.injEq] at hrun
      obtain ⟨rfl, rfl, rfl, rfl⟩ := hrun
      refine ⟨_, fun E vs hok hH hv => decF_rel hok (fun b => by rw [hH]; simp) hxs hv, ?_⟩
      have := (h.out xs g hp).out
      rw [startR_eq] at this
      unfold startC at this
      rw [hc] at this
      simp only [fV1s_eq, fBlks_eq, fSt_eq] at this
      exact ex_sound hT hP c this
    · cases hrun
  · cases hrun

/-- a nil slice in a variable becomes one of one's own -/
theorem Le.nilH {m : Nat} {st : St} (b : Nat) (t : Ty) (cs ds : List Cell) (h : st.heap[b]? = some (some (.var cs))) (hn : noCs st.heap.length cs = some ds) (hsz : ds.map Cell.size = cs.map Cell.size) :
    Le m st { tmps := st.tmps, heap := setAt (setAt st.heap st.heap.length (some (.arr t []))) b (some (.var ds)) } := by
  intro E0 E a hm hs hf
  have hlt : b < st.heap.length := (List.getElem?_eq_some_iff.1 h).1
  have hU : ¬ E.U st.heap.length := fun hu => by have := hs.U _ hu; omega
  have hstep : Step E { pre := none, val := .dead, add := [.arr t []], set := [] } st.heap.length (nilE E [] st.heap.length t) := Step.nil (us := []) hs.ok rfl rfl hU
  have hs1 := hs.step (dst := none) (v := undef) hstep trivial
  have hf1 := hf.step hstep
  have hlook : st.look b = some (.var cs) := by unfold St.look; rw [h]
  have hb : E.H b = some (.var cs) := (hs.H b).trans hlook
  have hne : b ≠ st.heap.length := by omega
  obtain ⟨hu, ⟨g, ca, el, hr, hw, hir⟩, hS⟩ := hs.ok.blk b _ hb
  have hb1 : (nilE E [] st.heap.length t).H b = some (.var cs) := by simp [nilE, hne, hb]
  have hr1 : (nilE E [] st.heap.length t).ρ b = some g := by simp [nilE, hne, hr]
  have hsh : shape (.var ds) = shape (.var cs) := by simp only [shape]; rw [hsz]
  have hwr : Writes (nilE E [] st.heap.length t) g ca ca el (nilE E [] st.heap.length t).w := ⟨hw, hw, rfl, fun _ _ => rfl, rfl, rfl, rfl, rfl⟩
  have hir1 := noCs_rel hstep.ext hn hir
  have hheap : (st.act st.heap.length { pre := none, val := .dead, add := [.arr t []], set := [] }).heap = setAt st.heap st.heap.length (some (.arr t [])) := rfl
  have hlen : b < (setAt st.heap st.heap.length (some (.arr t []))).length := by
    have := (len_addAll [.arr t []] st.heap st.heap.length).1
    exact Nat.lt_of_lt_of_le hlt this
  refine ⟨setE (nilE E [] st.heap.length t) b (.var ds) (nilE E [] st.heap.length t).w, rfl, ⟨hs1.defers, hs1.len, fun j y hy => ?_, setE_ok hs1.ok hb1 hr1 hsh hwr hir1, fun x => ?_, fun x hx => ?_⟩, ?_⟩
  · obtain ⟨v, h1, h2⟩ := hs1.tmp j y hy
    exact ⟨v, h1, h2.ext (setE_ext hs1.ok hb1 hr1 hsh hwr)⟩
  · show (if x = b then some (.var ds) else (nilE E [] st.heap.length t).H x) = St.look { tmps := st.tmps, heap := setAt (setAt st.heap st.heap.length (some (.arr t []))) b (some (.var ds)) } x
    unfold St.look
    rw [setAt_same (α := Nat) _ _ _ _ hlen]
    split
    · rfl
    · exact hs1.H x
  · have := hs1.U x hx
    show x < (setAt (setAt st.heap st.heap.length (some (.arr t []))) b (some (.var ds))).length
    rw [setAt_len _ _ _ hlen]
    exact this
  · exact ⟨setE_fr hs1.ok hb1 hr1 hwr hf1.fr, hf1.ext.trans (setE_ext hs1.ok hb1 hr1 hsh hwr)⟩

/-- a contract out of what a call gives that leaves the world as it was -/
theorem PSpec.of_calls {P : Program} {f : FuncId} {fn : Func} (hf : P.funcs[f]? = some fn) (hn : (fn.name == "runtime.NumGoroutine") = false) (hb : fn.body.isSome = true) (s : PSpec) (hfr : ∀ xs, (s.out xs).2.2 = [])
    (h : ∀ (E : Env) (xs : Args s.gs) (vs : Array Value), VsR E (canonArgs s.gs xs) vs.toList → (∀ q, (s.out xs).1 = some q → q) → Calls P f vs E.w fun e w' => (∃ v, e = .returned v ∧ AVR E (s.out xs).2.1 v) ∧ w' = E.w) : GoodF P f s.spec := by
  refine ⟨?_, fn, hf, hn, hb⟩
  intro E0 vs args bl p r upd fresh hH hU hok hvs hrun hp
  unfold PSpec.spec at hrun
  simp only at hrun
  split at hrun
  · split at hrun
    · rename_i xs hxs
      simp only [Option.some.injEq, Prod.mk.injEq] at hrun
      obtain ⟨rfl, rfl, rfl, rfl⟩ := hrun
      have hv := decArgs_rel hok (fun b => by rw [hH]; simp) hxs hvs
      refine (h E0 xs vs hv hp).mono ?_
      rintro e w' ⟨⟨v, rfl, hr⟩, rfl⟩
      refine ⟨v, E0, rfl, rfl, hr, hok, fun b => ?_, fun b => ?_, Ext.refl E0, frameOf_ok⟩
      · rw [hH, hfr]; simp
      · rw [hU, hfr]; simp
    · cases hrun
  · cases hrun

end Go.Fw

/- The lines of a port, bit by bit and at once. -/
namespace Go.Proofs.Ytblnigjmcjpopaa
open Go.Fw
set_option linter.unusedVariables false
set_option linter.unusedSimpArgs false

theorem land1q (c : Int) : land .i64 c 1 = ((u64 c % 2 : Nat) : Int) := by
  have e : u64 c &&& u64 1 = u64 c % 2 := by
    have : u64 1 = 2 ^ 1 - 1 := by decide
    rw [this, Nat.and_two_pow_sub_one_eq_mod]
  rw [land_nat _ _ (by rw [e]; omega), e]
theorem bit_of {a k : Nat} (h : a < 2 ^ 63) (hk : k ≤ 62) : land .i64 (shr .i64 (a : Int) (k : Int)) 1 = ((a / 2 ^ k % 2 : Nat) : Int) := by
  have : a / 2 ^ k < 2 ^ 63 := Nat.lt_of_le_of_lt (Nat.div_le_self _ _) h
  rw [shr_eq (by omega), land1q, u64_nat (by omega)]
def bothF (n : List Int) (m : Int) : Nat → Int
  | 0 => 0
  | k + 1 => IntKind.i64.wrap (bothF n m k + shl .i64 (land .i64 (shr .i64 (n.getD (land .i64 (shr .i64 m k) 1).toNat 0) k) 1) k)
theorem both_nat (x l m : Nat) (hx : x < 256) (hl : l < 256) (hm : m < 256) : ∀ k, k ≤ 8 → bothF [(x : Int), l, m] m k = ((((l &&& m) ||| (x ^^^ (x &&& m))) % 2 ^ k : Nat) : Int)
  | 0, _ => by simp [bothF, Nat.mod_one]
  | k + 1, h => by
    have ih := both_nat x l m hx hl hm k (by omega)
    generalize hX : (l &&& m) ||| (x ^^^ (x &&& m)) = X at ih ⊢
    have hsel : ∃ s : Nat, ([(x : Int), l, m].getD (land .i64 (shr .i64 (m : Int) k) 1).toNat 0) = (s : Int) ∧ s < 256 ∧ s / 2 ^ k % 2 = X / 2 ^ k % 2 := by
      have e1 : X.testBit k = ((l.testBit k && m.testBit k) || (x.testBit k && !m.testBit k)) := by
        rw [← hX, Nat.testBit_or, Nat.testBit_and, xor_and_testBit]
      rw [bit_of (by omega) (by omega)]
      rcases Nat.mod_two_eq_zero_or_one (m / 2 ^ k) with h0 | h0
      · refine ⟨x, by rw [h0]; rfl, hx, ?_⟩
        rw [← Nat.toNat_testBit, ← Nat.toNat_testBit, e1]
        have : m.testBit k = false := by rw [Nat.testBit_eq_decide_div_mod_eq, h0]; rfl
        rw [this]; simp
      · refine ⟨l, by rw [h0]; rfl, hl, ?_⟩
        rw [← Nat.toNat_testBit, ← Nat.toNat_testBit, e1]
        have : m.testBit k = true := by rw [Nat.testBit_eq_decide_div_mod_eq, h0]; rfl
        rw [this]; simp
    obtain ⟨s, hs, hs2, hs3⟩ := hsel
    have hp : 2 ^ (k + 1) ≤ 2 ^ 8 := pow_le h
    have hp0 : 0 < 2 ^ k := Nat.pow_pos (by omega)
    have hb : X / 2 ^ k % 2 ≤ 1 := by omega
    have hmul : X / 2 ^ k % 2 * 2 ^ k ≤ 1 * 2 ^ k := Nat.mul_le_mul_right _ hb
    have hr : X % 2 ^ k < 2 ^ k := Nat.mod_lt _ hp0
    rw [Nat.pow_succ] at hp
    rw [bothF, hs, bit_of (by omega) (by omega), hs3, ih, shl_eq (by omega) (by omega), w64 (by omega) (by omega), Nat.pow_succ, Nat.mod_mul, Nat.mul_comm (2 ^ k)]
    omega
theorem both_eq (x l m : Int) (hx : 0 ≤ x ∧ x < 256) (hl : 0 ≤ l ∧ l < 256) (hm : 0 ≤ m ∧ m < 256) : bothF [x, l, m] m 8 = lor .i64 (land .i64 l m) (landNot .i64 x m) := by
  obtain ⟨x, rfl⟩ := Int.eq_ofNat_of_zero_le hx.1
  obtain ⟨l, rfl⟩ := Int.eq_ofNat_of_zero_le hl.1
  obtain ⟨m, rfl⟩ := Int.eq_ofNat_of_zero_le hm.1
  have h1 : l &&& m < 2 ^ 8 := Nat.and_lt_two_pow _ (by omega)
  have h2 : x ^^^ (x &&& m) < 2 ^ 8 := Nat.xor_lt_two_pow (by omega) (Nat.and_lt_two_pow _ (by omega))
  have h3 : (l &&& m) ||| (x ^^^ (x &&& m)) < 2 ^ 8 := Nat.or_lt_two_pow h1 h2
  rw [both_nat x l m (by omega) (by omega) (by omega) 8 (by omega), Nat.mod_eq_of_lt h3]
  have e1 : land .i64 (l : Int) m = ((l &&& m : Nat) : Int) := by
    rw [land_nat _ _ (by rw [u64_nat (by omega), u64_nat (by omega)]; omega), u64_nat (by omega), u64_nat (by omega)]
  have e2 : landNot .i64 (x : Int) m = ((x ^^^ (x &&& m) : Nat) : Int) := by
    rw [landNot_nat _ _ (by rw [u64_nat (by omega)]; omega), u64_nat (by omega), u64_nat (by omega)]
  rw [e1, e2, lor_nat _ _ (by rw [u64_nat (by omega), u64_nat (by omega)]; omega), u64_nat (by omega), u64_nat (by omega)]

end Go.Proofs.Ytblnigjmcjpopaa

/- The chip with eight lines: what the program's functions and the reference's give. -/
namespace Go.Proofs.Ytblnigjmcjpopaa
open Go.Fw
set_option linter.unusedVariables false
set_option linter.unusedSimpArgs false
set_option maxRecDepth 100000

def portC : Cv := (ByteArray.empty, 4, 0, 0, [])
def portN (N : List Int) : List Int := [N.getD 0 0 % 256, N.getD 1 0 % 256, N.getD 2 0 % 256]

def pformedS : PSpec := ⟨[gC, gD], fun (c, d, _) => (some (c.2.1 = 4), devR, [.arr (.int .i64) (portN d.1)])⟩
theorem pformed_ok : GoodF Try.prog 54 pformedS.spec := by
  have hT := tab_ok (fs := [(117, formS.spec)]) tree_ok
  have hP : SpecsOk Try.prog (tab tree [(117, formS.spec)]) := specs_cons form_ok specs_nil
  refine pformedS.good (fn := Try.f54) hT hP Try.func54 (by kernel_rfl) rfl fun (c : Cv) (d : Dv) hp => ?_
  obtain ⟨cn, ck, cb, cs, cd⟩ := c
  obtain rfl : ck = 4 := hp _ rfl
  obtain ⟨N, M⟩ := d
  repeat' first
    | (refine Go.mk ?_; conv => whnf)
    | refine Need.go ?_ ?_
    | refine NilG.go (fun _ => ?_) (fun _ => ?_)
    | refine Br.dec (fun _ => ?_) (fun _ => ?_)
    | refine Br.go (fun _ => ?_) (fun _ => ?_)
    | refine draw_go hT hP mixed ?_
    | refine round_go hT hP ?_
  · exact (by decide : ([256, 256, 256] : List Int).length ≤ 1000 ∧ ∀ m ∈ ([256, 256, 256] : List Int), 0 < m ∧ m ≤ 4611686018427387904)
  · exact .mk [] [5] _ rfl rfl rfl rfl rfl rfl rfl

def pfreshS : PSpec := ⟨[gC], fun (c, _) => (some (c.2.1 = 4), devR, [.arr (.int .i64) [255, 0, 0]])⟩
theorem pfresh_ok : GoodF Try.prog 50 pfreshS.spec := by
  have hT := tab_ok (fs := []) tree_ok
  have hP : SpecsOk Try.prog (tab tree []) := specs_nil
  refine pfreshS.good (fn := Try.f50) hT hP Try.func50 (by kernel_rfl) rfl fun (c : Cv) hp => ?_
  obtain ⟨cn, ck, cb, cs, cd⟩ := c
  obtain rfl : ck = 4 := hp _ rfl
  repeat' first
    | (refine Go.mk ?_; conv => whnf)
    | refine Need.go ?_ ?_
    | refine NilG.go (fun _ => ?_) (fun _ => ?_)
    | refine Br.dec (fun _ => ?_) (fun _ => ?_)
    | refine Br.go (fun _ => ?_) (fun _ => ?_)
    | refine draw_go hT hP mixed ?_
    | refine round_go hT hP ?_
  exact .mk [] [2] _ rfl rfl rfl rfl rfl rfl rfl

def pnewS : PSpec := ⟨[], fun _ => (none, devR, [.arr (.int .i64) [255, 0, 0]])⟩
theorem pnew_ok : GoodF Try.prog 105 pnewS.spec := by
  have hT := tab_ok (fs := []) tree_ok
  have hP : SpecsOk Try.prog (tab tree []) := specs_nil
  refine pnewS.good (fn := Try.f105) hT hP Try.func105 (by kernel_rfl) rfl fun _ => ?_
  repeat' first
    | (refine Go.mk ?_; conv => whnf)
    | refine Need.go ?_ ?_
    | refine NilG.go (fun _ => ?_) (fun _ => ?_)
    | refine Br.dec (fun _ => ?_) (fun _ => ?_)
    | refine Br.go (fun _ => ?_) (fun _ => ?_)
    | refine draw_go hT hP mixed ?_
    | refine round_go hT hP ?_
  exact .mk [] [1] _ rfl rfl rfl rfl rfl rfl rfl

def pfit0S : PSpec := ⟨[gD], fun (d, _) => (none, .cell (.own 0), [.arr (.int .i64) (portN d.1)])⟩
theorem pfit0_ok : GoodF Try.prog 170 pfit0S.spec := by
  have hT := tab_ok (fs := [(70, lowM.spec)]) tree_ok
  have hP : SpecsOk Try.prog (tab tree [(70, lowM.spec)]) := specs_cons lowM_ok specs_nil
  refine pfit0S.good (fn := Try.f170) hT hP Try.func170 (by kernel_rfl) rfl fun (d : Dv) _ => ?_
  obtain ⟨N, M⟩ := d
  repeat' first
    | (refine Go.mk ?_; conv => whnf)
    | refine Need.go ?_ ?_
    | refine NilG.go (fun _ => ?_) (fun _ => ?_)
    | refine Br.dec (fun _ => ?_) (fun _ => ?_)
    | refine Br.go (fun _ => ?_) (fun _ => ?_)
    | refine draw_go hT hP mixed ?_
    | refine round_go hT hP ?_
  · exact of_decide_eq_true rfl
  refine loop_unroll 4 ?_
  repeat' first
    | (refine Go.mk ?_; conv => whnf)
    | refine Need.go ?_ ?_
    | refine NilG.go (fun _ => ?_) (fun _ => ?_)
    | refine Br.dec (fun _ => ?_) (fun _ => ?_)
    | refine Br.go (fun _ => ?_) (fun _ => ?_)
    | refine draw_go hT hP mixed ?_
    | refine round_go hT hP ?_
  all_goals first
    | exact of_decide_eq_true rfl
    | exact .mk [] [1] _ rfl rfl rfl rfl rfl rfl rfl

def poutS : PSpec := ⟨[gD], fun (d, _) => (none, I (land .i64 (d.1.getD 1 0 % 256) (d.1.getD 2 0 % 256)), [])⟩
def pshowsS : PSpec := ⟨[gC, gD], fun (c, d, _) => (some (c.2.1 = 4), I (land .i64 (d.1.getD 1 0 % 256) (d.1.getD 2 0 % 256)), [])⟩
def pinN (N : List Int) (k : Int) : List Int := [k % 256, N.getD 1 0 % 256, N.getD 2 0 % 256]
def pinS : PSpec := ⟨[gD, gi], fun (d, k, _) => (none, devR, [.arr (.int .i64) (pinN d.1 k)])⟩
theorem pin_ok : GoodF Try.prog 122 pinS.spec := by
  have hT := tab_ok (fs := [(170, pfit0S.spec), (70, lowM.spec)]) tree_ok
  have hP : SpecsOk Try.prog (tab tree [(170, pfit0S.spec), (70, lowM.spec)]) := specs_cons pfit0_ok (specs_cons lowM_ok specs_nil)
  refine pinS.good (fn := Try.f122) hT hP Try.func122 (by kernel_rfl) rfl fun (d : Dv) (k : Int) _ => ?_
  obtain ⟨N, M⟩ := d
  repeat' first
    | (refine Go.mk ?_; conv => whnf)
    | refine Need.go ?_ ?_
    | refine NilG.go (fun _ => ?_) (fun _ => ?_)
    | refine Br.dec (fun _ => ?_) (fun _ => ?_)
    | refine Br.go (fun _ => ?_) (fun _ => ?_)
    | refine draw_go hT hP mixed ?_
    | refine round_go hT hP ?_
  all_goals first
    | exact of_decide_eq_true rfl
    | exact .mk [] [2] _ rfl rfl rfl rfl rfl rfl rfl

def pgivenS : PSpec := ⟨[gC, gD, gi], fun (c, d, k, _) => (some (c.2.1 = 4), devR, [.arr (.int .i64) (pinN d.1 k)])⟩
def pwN (N : List Int) (at_ k : Int) : List Int := [N.getD 0 0 % 256, if at_ = 0 then k % 256 else N.getD 1 0 % 256, if at_ = 1 then k % 256 else N.getD 2 0 % 256]
def pwriteS : PSpec := ⟨[gD, gi, gi], fun (d, at_, k, _) => (none, devR, [.arr (.int .i64) (pwN d.1 at_ k)])⟩
theorem pwrite_ok : GoodF Try.prog 163 pwriteS.spec := by
  have hT := tab_ok (fs := [(170, pfit0S.spec), (70, lowM.spec)]) tree_ok
  have hP : SpecsOk Try.prog (tab tree [(170, pfit0S.spec), (70, lowM.spec)]) := specs_cons pfit0_ok (specs_cons lowM_ok specs_nil)
  refine pwriteS.good (fn := Try.f163) hT hP Try.func163 (by kernel_rfl) rfl fun (d : Dv) (a k : Int) _ => ?_
  obtain ⟨N, M⟩ := d
  repeat' first
    | (refine Go.mk ?_; conv => whnf)
    | refine Need.go ?_ ?_
    | refine NilG.go (fun _ => ?_) (fun _ => ?_)
    | refine Br.dec (fun _ => ?_) (fun _ => ?_)
    | refine Br.go (fun _ => ?_) (fun _ => ?_)
    | refine draw_go hT hP mixed ?_
    | refine round_go hT hP ?_
  all_goals (try subst_vars)
  all_goals first
    | exact of_decide_eq_true rfl
    | exact .mk [] [2] _ rfl rfl rfl rfl rfl rfl rfl
    | skip
  rename_i h0 h1
  refine .mk [] [2] _ rfl rfl rfl rfl rfl ?_ rfl
  show [some (Blk.arr (.int .i64) (portN N))] = [some (Blk.arr (.int .i64) (pwN N a k))]
  simp only [pwN, if_neg h0, if_neg h1]; rfl

def pstoredS : PSpec := ⟨[gC, gD, gi, gi], fun (c, d, at_, k, _) => (some (c.2.1 = 4), devR, [.arr (.int .i64) (pwN d.1 at_ k)])⟩
def bothV (N : List Int) : Int := lor .i64 (land .i64 (N.getD 1 0 % 256) (N.getD 2 0 % 256)) (landNot .i64 (N.getD 0 0 % 256) (N.getD 2 0 % 256))
def preadF (N : List Int) (a : Int) : Int := pickF [bothV N, N.getD 2 0 % 256] a
def preadS : PSpec := ⟨[gD, gi], fun (d, a, _) => (none, .tup [.agg [.own 0, .imm (.slice none 0 0)], I1 (preadF d.1 a)], [.arr (.int .i64) (portN d.1)])⟩
theorem pread_ok : GoodF Try.prog 156 preadS.spec := by
  have hT := tab_ok (fs := [(170, pfit0S.spec)]) tree_ok
  have hP : SpecsOk Try.prog (tab tree [(170, pfit0S.spec)]) := specs_cons pfit0_ok specs_nil
  refine preadS.good (fn := Try.f156) hT hP Try.func156 (by kernel_rfl) rfl fun (d : Dv) (a : Int) _ => ?_
  obtain ⟨N, M⟩ := d
  repeat' first
    | (refine Go.mk ?_; conv => whnf)
    | refine Need.go ?_ ?_
    | refine NilG.go (fun _ => ?_) (fun _ => ?_)
    | refine Br.dec (fun _ => ?_) (fun _ => ?_)
    | refine Br.go (fun _ => ?_) (fun _ => ?_)
    | refine draw_go hT hP mixed ?_
    | refine round_go hT hP ?_
  all_goals (try subst_vars)
  all_goals first
    | exact of_decide_eq_true rfl
    | exact .mk [] [2] _ rfl rfl rfl rfl rfl rfl rfl
    | skip
  rename_i h0 h1
  have e : preadF N a = 0 := pick_no fun i hi => by
    have : i < 2 := hi
    omega
  refine .mk [] [2] _ rfl rfl rfl rfl rfl rfl ?_
  show AV.tup [.agg [.own 0, .imm (.slice none 0 0)], I1 0] = AV.tup [.agg [.own 0, .imm (.slice none 0 0)], I1 (preadF N a)]
  rw [e]

theorem sel_in (N : List Int) (k : Nat) (hk : k ≤ 62) : 0 ≤ land .i64 (shr .i64 (N.getD 2 0 % 256) k) 1 ∧ land .i64 (shr .i64 (N.getD 2 0 % 256) k) 1 < 3 := by
  obtain ⟨m, hm⟩ := Int.eq_ofNat_of_zero_le (show 0 ≤ N.getD 2 0 % 256 by omega)
  rw [hm, bit_of (by omega) hk]
  omega
def ploadedS : PSpec := ⟨[gC, gD, gi], fun (c, d, a, _) => (some (c.2.1 = 4), .tup [.agg [.own 0, .imm (.slice none 0 0)], I1 (preadF d.1 a)], [.arr (.int .i64) (portN d.1)])⟩
end Go.Proofs.Ytblnigjmcjpopaa

/- The timer as plain functions: a cycle, many cycles. -/
namespace Go.Proofs.Ytblnigjmcjpopaa
open Go.Fw
set_option linter.unusedVariables false
set_option linter.unusedSimpArgs false

def timN (N : List Int) : List Int := [N.getD 0 0 % 65536, N.getD 1 0 % 65536, N.getD 2 0 % 8, N.getD 3 0 % 2]
def tickT : List Int → List Int
  | [a, b, c, f] => if c % 2 = 0 then [a, b, c, f] else if a > 0 then [a - 1, b, c, f] else if c / 2 % 2 = 1 then [b, b, c, 1] else [a, b, c - 1, 1]
  | l => l
def iterT : Nat → List Int → List Int
  | 0, l => l
  | n + 1, l => iterT n (tickT l)
theorem iterT_add : ∀ (m n : Nat) (l : List Int), iterT (m + n) l = iterT n (iterT m l)
  | 0, n, l => by rw [Nat.zero_add]; rfl
  | m + 1, n, l => by
    have e : m + 1 + n = (m + n) + 1 := by omega
    rw [e]
    exact iterT_add m n (tickT l)
theorem it_off {a b c f : Int} (h : c % 2 = 0) : ∀ n, iterT n [a, b, c, f] = [a, b, c, f]
  | 0 => rfl
  | n + 1 => by
    rw [iterT, tickT, if_pos h]
    exact it_off h n
theorem it_run {b c f : Int} (h : ¬ c % 2 = 0) : ∀ (n : Nat) (a : Int), (n : Int) ≤ a → iterT n [a, b, c, f] = [a - n, b, c, f]
  | 0, a, _ => by rw [iterT]; simp
  | n + 1, a, ha => by
    rw [iterT, tickT, if_neg h, if_pos (by omega), it_run h n (a - 1) (by omega)]
    have : a - 1 - (n : Int) = a - ((n + 1 : Nat) : Int) := by omega
    rw [this]
theorem it_next {b c f a : Int} (h : ¬ c % 2 = 0) (ha : 0 ≤ a) (n : Nat) (hn : a < n) : iterT n [a, b, c, f] = iterT (n - a.toNat - 1) (tickT [0, b, c, f]) := by
  have e : n = a.toNat + ((n - a.toNat - 1) + 1) := by omega
  rw [e, iterT_add, it_run h a.toNat a (by omega)]
  have e2 : a - (a.toNat : Int) = 0 := by omega
  have e3 : a.toNat + (n - a.toNat - 1 + 1) - a.toNat - 1 = n - a.toNat - 1 := by omega
  rw [e2, e3]
  rfl
theorem it_rep {b c : Int} (h : ¬ c % 2 = 0) (h2 : c / 2 % 2 = 1) (hb : 0 ≤ b) : ∀ (m n : Nat), n ≤ m → iterT n [b, b, c, 1] = [b - (n : Int) % (b + 1), b, c, 1] := by
  intro m
  induction m with
  | zero =>
    intro n hn
    have : n = 0 := by omega
    subst this
    rw [iterT]; simp
  | succ m ih =>
    intro n hn
    by_cases hle : (n : Int) ≤ b
    · rw [it_run h n b hle, Int.emod_eq_of_lt (by omega) (by omega)]
    · rw [it_next h hb n (by omega), tickT, if_neg h, if_neg (by omega), if_pos h2, ih _ (by omega)]
      have e : ((n - b.toNat - 1 : Nat) : Int) = (n : Int) - (b + 1) := by omega
      rw [e, Int.sub_emod_right]
theorem it_again {a b c f : Int} (h : ¬ c % 2 = 0) (h2 : c / 2 % 2 = 1) (ha : 0 ≤ a) (hb : 0 ≤ b) (n : Nat) (hn : a < n) : iterT n [a, b, c, f] = [b - ((n : Int) - a - 1) % (b + 1), b, c, 1] := by
  rw [it_next h ha n hn, tickT, if_neg h, if_neg (by omega), if_pos h2, it_rep h h2 hb _ _ (Nat.le_refl _)]
  have e : ((n - a.toNat - 1 : Nat) : Int) = (n : Int) - a - 1 := by omega
  rw [e]
theorem it_once {a b c f : Int} (h : ¬ c % 2 = 0) (h2 : ¬ c / 2 % 2 = 1) (ha : 0 ≤ a) (n : Nat) (hn : a < n) : iterT n [a, b, c, f] = [0, b, c - 1, 1] := by
  rw [it_next h ha n hn, tickT, if_neg h, if_neg (by omega), if_neg h2]
  exact it_off (by omega) _
/-- the bits of the control register -/
theorem ctl {c : Int} (h0 : 0 ≤ c) (h1 : c < 8) : ((land .i64 c 1 == 0) = decide (c % 2 = 0)) ∧ ((land .i64 c 2 != 0) = decide (c / 2 % 2 = 1)) ∧ ((land .i64 c 4 != 0) = decide (c ≥ 4)) ∧ (¬ c % 2 = 0 → landNot .i64 c 1 = c - 1) := by
  have : c = 0 ∨ c = 1 ∨ c = 2 ∨ c = 3 ∨ c = 4 ∨ c = 5 ∨ c = 6 ∨ c = 7 := by omega
  rcases this with rfl | rfl | rfl | rfl | rfl | rfl | rfl | rfl <;> decide +kernel
theorem timN_idem {a b c f : Int} (ha : 0 ≤ a ∧ a < 65536) (hb : 0 ≤ b ∧ b < 65536) (hc : 0 ≤ c ∧ c < 8) (hf : 0 ≤ f ∧ f < 2) : timN [a, b, c, f] = [a, b, c, f] := by
  show [a % 65536, b % 65536, c % 8, f % 2] = _
  rw [Int.emod_eq_of_lt ha.1 ha.2, Int.emod_eq_of_lt hb.1 hb.2, Int.emod_eq_of_lt hc.1 hc.2, Int.emod_eq_of_lt hf.1 hf.2]
theorem tick_form4 {a b c f : Int} (ha : 0 ≤ a ∧ a < 65536) (hb : 0 ≤ b ∧ b < 65536) (hc : 0 ≤ c ∧ c < 8) (hf : 0 ≤ f ∧ f < 2) : timN (tickT [a, b, c, f]) = tickT [a, b, c, f] := by
  by_cases h1 : c % 2 = 0
  · have e : tickT [a, b, c, f] = [a, b, c, f] := if_pos h1
    rw [e]; exact timN_idem ha hb hc hf
  · by_cases h2 : a > 0
    · have e : tickT [a, b, c, f] = [a - 1, b, c, f] := by rw [tickT, if_neg h1, if_pos h2]
      rw [e]; exact timN_idem (by omega) hb hc hf
    · by_cases h3 : c / 2 % 2 = 1
      · have e : tickT [a, b, c, f] = [b, b, c, 1] := by rw [tickT, if_neg h1, if_neg h2, if_pos h3]
        rw [e]; exact timN_idem hb hb hc (by omega)
      · have e : tickT [a, b, c, f] = [a, b, c - 1, 1] := by rw [tickT, if_neg h1, if_neg h2, if_neg h3]
        rw [e]; exact timN_idem ha hb (by omega) (by omega)
theorem tick_form {l : List Int} (h : timN l = l) : timN (tickT l) = tickT l := by
  have := tick_form4 (a := l.getD 0 0 % 65536) (b := l.getD 1 0 % 65536) (c := l.getD 2 0 % 8) (f := l.getD 3 0 % 2) (by omega) (by omega) (by omega) (by omega)
  have e : [l.getD 0 0 % 65536, l.getD 1 0 % 65536, l.getD 2 0 % 8, l.getD 3 0 % 2] = l := h
  rw [e] at this
  exact this
theorem timN_form (N : List Int) : timN (timN N) = timN N := timN_idem (by omega) (by omega) (by omega) (by omega)

end Go.Proofs.Ytblnigjmcjpopaa

/- The chip that counts down: forming, cycles. -/
namespace Go.Proofs.Ytblnigjmcjpopaa
open Go.Fw
set_option linter.unusedVariables false
set_option linter.unusedSimpArgs false
set_option maxRecDepth 100000

theorem blk_eq {l l' : List Int} (h : l = l') : [some (Blk.arr (.int .i64) l)] = [some (Blk.arr (.int .i64) l')] := by rw [h]
abbrev tA (N : List Int) : Int := N.getD 0 0 % 65536
abbrev tB (N : List Int) : Int := N.getD 1 0 % 65536
abbrev tC (N : List Int) : Int := N.getD 2 0 % 8
abbrev tF (N : List Int) : Int := N.getD 3 0 % 2
theorem tR (N : List Int) : (0 ≤ tA N ∧ tA N < 65536) ∧ (0 ≤ tB N ∧ tB N < 65536) ∧ (0 ≤ tC N ∧ tC N < 8) ∧ (0 ≤ tF N ∧ tF N < 2) := by
  unfold tA tB tC tF; omega
theorem timN_eq (N : List Int) : timN N = [tA N, tB N, tC N, tF N] := rfl
def timC : Cv := (ByteArray.empty, 3, 0, 0, [])

def tformedS : PSpec := ⟨[gC, gD], fun (c, d, _) => (some (c.2.1 = 3), devR, [.arr (.int .i64) (timN d.1)])⟩
theorem tformed_ok : GoodF Try.prog 54 tformedS.spec := by
  have hT := tab_ok (fs := [(117, formS.spec)]) tree_ok
  have hP : SpecsOk Try.prog (tab tree [(117, formS.spec)]) := specs_cons form_ok specs_nil
  refine tformedS.good (fn := Try.f54) hT hP Try.func54 (by kernel_rfl) rfl fun (c : Cv) (d : Dv) hp => ?_
  obtain ⟨cn, ck, cb, cs, cd⟩ := c
  obtain rfl : ck = 3 := hp _ rfl
  obtain ⟨N, M⟩ := d
  repeat' first
    | (refine Go.mk ?_; conv => whnf)
    | refine Need.go ?_ ?_
    | refine NilG.go (fun _ => ?_) (fun _ => ?_)
    | refine Br.dec (fun _ => ?_) (fun _ => ?_)
    | refine Br.go (fun _ => ?_) (fun _ => ?_)
    | refine draw_go hT hP mixed ?_
    | refine round_go hT hP ?_
  · exact (by decide : ([65536, 65536, 8, 2] : List Int).length ≤ 1000 ∧ ∀ m ∈ ([65536, 65536, 8, 2] : List Int), 0 < m ∧ m ≤ 4611686018427387904)
  · exact .mk [] [5] _ rfl rfl rfl rfl rfl rfl rfl

def tfitS : PSpec := ⟨[gD], fun (d, _) => (none, .cell (.own 0), [.arr (.int .i64) (timN d.1)])⟩
theorem tfit_ok : GoodF Try.prog 169 tfitS.spec := by
  have hT := tab_ok (fs := [(70, lowM.spec)]) tree_ok
  have hP : SpecsOk Try.prog (tab tree [(70, lowM.spec)]) := specs_cons lowM_ok specs_nil
  refine tfitS.good (fn := Try.f169) hT hP Try.func169 (by kernel_rfl) rfl fun (d : Dv) _ => ?_
  obtain ⟨N, M⟩ := d
  repeat' first
    | (refine Go.mk ?_; conv => whnf)
    | refine Need.go ?_ ?_
    | refine NilG.go (fun _ => ?_) (fun _ => ?_)
    | refine Br.dec (fun _ => ?_) (fun _ => ?_)
    | refine Br.go (fun _ => ?_) (fun _ => ?_)
    | refine draw_go hT hP mixed ?_
    | refine round_go hT hP ?_
  all_goals first
    | exact of_decide_eq_true rfl
    | exact .mk [] [1] _ rfl rfl rfl rfl rfl rfl rfl

def tnewS : PSpec := ⟨[], fun _ => (none, devR, [.arr (.int .i64) [0, 0, 0, 0]])⟩
theorem tnew_ok : GoodF Try.prog 104 tnewS.spec := by
  have hT := tab_ok (fs := []) tree_ok
  have hP : SpecsOk Try.prog (tab tree []) := specs_nil
  refine tnewS.good (fn := Try.f104) hT hP Try.func104 (by kernel_rfl) rfl fun _ => ?_
  repeat' first
    | (refine Go.mk ?_; conv => whnf)
    | refine Need.go ?_ ?_
    | refine NilG.go (fun _ => ?_) (fun _ => ?_)
    | refine Br.dec (fun _ => ?_) (fun _ => ?_)
    | refine Br.go (fun _ => ?_) (fun _ => ?_)
    | refine draw_go hT hP mixed ?_
    | refine round_go hT hP ?_
  all_goals first
    | exact of_decide_eq_true rfl
    | exact .mk [] [1] _ rfl rfl rfl rfl rfl rfl rfl

def tickedS : PSpec := ⟨[gC, gD], fun (c, d, _) => (some (c.2.1 = 3), devR, [.arr (.int .i64) (tickT (timN d.1))])⟩
theorem ticked_ok : GoodF Try.prog 55 tickedS.spec := by
  have hT := tab_ok (fs := [(54, tformedS.spec)]) tree_ok
  have hP : SpecsOk Try.prog (tab tree [(54, tformedS.spec)]) := specs_cons tformed_ok specs_nil
  refine tickedS.good (fn := Try.f55) hT hP Try.func55 (by kernel_rfl) rfl fun (c : Cv) (d : Dv) hp => ?_
  obtain ⟨cn, ck, cb, cs, cd⟩ := c
  obtain rfl : ck = 3 := hp _ rfl
  obtain ⟨N, M⟩ := d
  obtain ⟨rA, rB, rC, rF⟩ := tR N
  repeat' first
    | (refine Go.mk ?_; conv => whnf)
    | refine Need.go ?_ ?_
    | refine NilG.go (fun _ => ?_) (fun _ => ?_)
    | refine Br.dec (fun _ => ?_) (fun _ => ?_)
    | refine Br.go (fun _ => ?_) (fun _ => ?_)
    | refine draw_go hT hP mixed ?_
    | refine round_go hT hP ?_
  all_goals first
    | exact rfl
    | exact of_decide_eq_true rfl
    | skip
  · rename_i h
    have h : Int.tmod (tC N) 2 = 0 := h
    refine .mk [] [3] _ rfl rfl rfl rfl rfl (blk_eq (l := timN N) ?_) rfl
    rw [timN_eq, tickT, if_pos]
    rw [Int.tmod_eq_emod_of_nonneg (by omega)] at h; exact h
  · rename_i h h1
    have h : ¬ Int.tmod (tC N) 2 = 0 := h
    have h1 : tA N > 0 := h1
    rw [Int.tmod_eq_emod_of_nonneg (by omega)] at h
    refine .mk [] [3] _ rfl rfl rfl rfl rfl (blk_eq (l := [IntKind.i64.wrap (tA N - 1), tB N, tC N, tF N]) ?_) rfl
    show _ = tickT (timN N)
    rw [timN_eq, tickT, if_neg h, if_pos h1, w64 (by omega) (by omega)]
  · rename_i h h1 h2
    have h : ¬ Int.tmod (tC N) 2 = 0 := h
    have h1 : ¬ tA N > 0 := h1
    have h2 : Int.tmod (IntKind.i64.wrap (Int.tdiv (tC N) 2)) 2 = 1 := h2
    rw [Int.tmod_eq_emod_of_nonneg (by omega)] at h
    rw [Int.tdiv_eq_ediv_of_nonneg (by omega), w64 (by omega) (by omega), Int.tmod_eq_emod_of_nonneg (by omega)] at h2
    refine .mk [] [3] _ rfl rfl rfl rfl rfl (blk_eq (l := [tB N, tB N, tC N, 1]) ?_) rfl
    show _ = tickT (timN N)
    rw [timN_eq, tickT, if_neg h, if_neg h1, if_pos h2]
  · rename_i h h1 h2
    have h : ¬ Int.tmod (tC N) 2 = 0 := h
    have h1 : ¬ tA N > 0 := h1
    have h2 : ¬ Int.tmod (IntKind.i64.wrap (Int.tdiv (tC N) 2)) 2 = 1 := h2
    rw [Int.tmod_eq_emod_of_nonneg (by omega)] at h
    rw [Int.tdiv_eq_ediv_of_nonneg (by omega), w64 (by omega) (by omega), Int.tmod_eq_emod_of_nonneg (by omega)] at h2
    refine .mk [] [3] _ rfl rfl rfl rfl rfl (blk_eq (l := [tA N, tB N, IntKind.i64.wrap (tC N - 1), 1]) ?_) rfl
    show _ = tickT (timN N)
    rw [timN_eq, tickT, if_neg h, if_neg h1, if_neg h2, w64 (x := tC N - 1) (by omega) (by omega)]

def tskipS : PSpec := ⟨[gD, gi], fun (d, k, _) => (some (k ≤ 4611686018427387904), devR, [.arr (.int .i64) (iterT k.toNat (timN d.1))])⟩
theorem tskip_ok : GoodF Try.prog 121 tskipS.spec := by
  have hT := tab_ok (fs := [(169, tfitS.spec)]) tree_ok
  have hP : SpecsOk Try.prog (tab tree [(169, tfitS.spec)]) := specs_cons tfit_ok specs_nil
  refine tskipS.good (fn := Try.f121) hT hP Try.func121 (by kernel_rfl) rfl fun (d : Dv) (k : Int) hp => ?_
  have hp : k ≤ 4611686018427387904 := hp _ rfl
  obtain ⟨N, M⟩ := d
  obtain ⟨rA, rB, rC, rF⟩ := tR N
  repeat' first
    | (refine Go.mk ?_; conv => whnf)
    | refine Need.go ?_ ?_
    | refine NilG.go (fun _ => ?_) (fun _ => ?_)
    | refine Br.dec (fun _ => ?_) (fun _ => ?_)
    | refine Br.go (fun _ => ?_) (fun _ => ?_)
    | refine draw_go hT hP mixed ?_
    | refine round_go hT hP ?_
  all_goals first
    | exact rfl
    | exact of_decide_eq_true rfl
    | skip
  all_goals obtain ⟨c1, c2, c4, c3⟩ := ctl (c := tC N) (by omega) (by omega)
  · rename_i h
    refine .mk [] [2] _ rfl rfl rfl rfl rfl (blk_eq (l := timN N) ?_) rfl
    show _ = iterT k.toNat (timN N)
    have : k.toNat = 0 := by omega
    rw [this]; rfl
  · rename_i h0 h
    have h : land .i64 (tC N) 1 = 0 := h
    refine .mk [] [2] _ rfl rfl rfl rfl rfl (blk_eq (l := timN N) ?_) rfl
    show _ = iterT k.toNat (timN N)
    rw [h] at c1
    rw [timN_eq, it_off (of_decide_eq_true c1.symm)]
  · rename_i h0 h h1
    have h : ¬ land .i64 (tC N) 1 = 0 := h
    have h1 : k ≤ tA N := h1
    have hc : ¬ tC N % 2 = 0 := by
      intro e; rw [decide_eq_true e] at c1; exact h (by simpa using c1)
    refine .mk [] [2] _ rfl rfl rfl rfl rfl (blk_eq (l := [IntKind.i64.wrap (tA N - k), tB N, tC N, tF N]) ?_) rfl
    show _ = iterT k.toNat (timN N)
    rw [timN_eq, it_run hc _ _ (by omega), w64 (by omega) (by omega)]
    have : ((k.toNat : Nat) : Int) = k := by omega
    rw [this]
  · show IntKind.i64.wrap (tB N + 1) ≠ 0
    rw [w64 (by omega) (by omega)]
    omega
  · rename_i h0 h h1 h2
    have h : ¬ land .i64 (tC N) 1 = 0 := h
    have h1 : ¬ k ≤ tA N := h1
    have h2 : (land .i64 (tC N) 2 != 0) = true := h2
    have hc : ¬ tC N % 2 = 0 := by
      intro e; rw [decide_eq_true e] at c1; exact h (by simpa using c1)
    rw [h2] at c2
    refine .mk [] [2] _ rfl rfl rfl rfl rfl (blk_eq (l := [IntKind.i64.wrap (tB N - Int.tmod (IntKind.i64.wrap (IntKind.i64.wrap (k - tA N) - 1)) (IntKind.i64.wrap (tB N + 1))), tB N, tC N, 1]) ?_) rfl
    show _ = iterT k.toNat (timN N)
    rw [timN_eq, it_again hc (of_decide_eq_true c2.symm) (by omega) (by omega) _ (by omega)]
    have e : ((k.toNat : Nat) : Int) = k := by omega
    rw [e, w64 (x := k - tA N) (by omega) (by omega), w64 (x := k - tA N - 1) (by omega) (by omega), w64 (x := tB N + 1) (by omega) (by omega), Int.tmod_eq_emod_of_nonneg (by omega)]
    have h5 := Int.emod_nonneg (k - tA N - 1) (show tB N + 1 ≠ 0 by omega)
    have h6 := Int.emod_lt_of_pos (k - tA N - 1) (show 0 < tB N + 1 by omega)
    rw [w64 (by omega) (by omega)]
  · rename_i h0 h h1 h2
    have h : ¬ land .i64 (tC N) 1 = 0 := h
    have h1 : ¬ k ≤ tA N := h1
    have h2 : (land .i64 (tC N) 2 != 0) = false := h2
    have hc : ¬ tC N % 2 = 0 := by
      intro e; rw [decide_eq_true e] at c1; exact h (by simpa using c1)
    rw [h2] at c2
    refine .mk [] [2] _ rfl rfl rfl rfl rfl (blk_eq (l := [0, tB N, landNot .i64 (tC N) 1, 1]) ?_) rfl
    show _ = iterT k.toNat (timN N)
    rw [timN_eq, it_once hc (of_decide_eq_false c2.symm) (by omega) _ (by omega), c3 hc]

def ttickS : PSpec := ⟨[gD], fun (d, _) => (none, devR, [.arr (.int .i64) (tickT (timN d.1))])⟩
end Go.Proofs.Ytblnigjmcjpopaa

/- Fields of numbers, by division: plain arithmetic. -/
namespace Go.Proofs.Ytblnigjmcjpopaa
open Go.Fw
set_option linter.unusedVariables false
set_option linter.unusedSimpArgs false

theorem placeF_id {f z : Nat} (h : f + z ≤ 62) : placeF (f : Int) (z : Int) = ((f : Int), (z : Int)) := by
  simp only [placeF, widthF, imax_eq, imin_eq]
  have e1 : max 0 (min (f : Int) 62) = f := by omega
  rw [e1, w64 (x := 62 - (f : Int)) (by omega) (by omega)]
  have e2 : max 0 (min (z : Int) (62 - f)) = z := by omega
  rw [e2]
theorem u64_mod (v : Int) {k : Nat} (h : k ≤ 62) : ((u64 v % 2 ^ k : Nat) : Int) = v % 2 ^ k := by
  have := lowF_mod v k (by omega) (by omega)
  rw [lowF_eq, widthF_id (by omega) (by omega)] at this
  exact this
theorem fput_bits {N V f z : Nat} (hN : N < 2 ^ 62) (hV : V < 2 ^ z) (h : f + z ≤ 62) :
    (N ^^^ (N &&& (2 ^ z - 1) * 2 ^ f)) ||| V * 2 ^ f = 2 ^ f * (2 ^ z * (N / 2 ^ (f + z)) + V) + N % 2 ^ f := by
  apply Nat.eq_of_testBit_eq
  intro i
  rw [Nat.testBit_two_pow_mul_add _ (Nat.mod_lt _ (Nat.pow_pos (by omega))), Nat.testBit_or, xor_and_testBit, Nat.testBit_mul_two_pow, Nat.testBit_mul_two_pow, Nat.testBit_two_pow_sub_one]
  by_cases h1 : i < f
  · rw [if_pos h1, Nat.testBit_mod_two_pow]
    have e : decide (f ≤ i) = false := by simp; omega
    simp [e, h1]
  · rw [if_neg h1, Nat.testBit_two_pow_mul_add _ hV]
    have e : decide (f ≤ i) = true := by simp; omega
    by_cases h2 : i - f < z
    · simp [e, h2]
    · rw [if_neg h2, Nat.testBit_div_two_pow]
      have e3 : V.testBit (i - f) = false := Nat.testBit_lt_two_pow (Nat.lt_of_lt_of_le hV (pow_le (by omega)))
      have e4 : i - f - z + (f + z) = i := by omega
      have e5 : f + z + (i - f - z) = i := by omega
      simp [e, h2, e3, e4, e5]
theorem getF_nat {n f z : Nat} (hn : n < 2 ^ 62) (h : f + z ≤ 62) : getF (n : Int) (f : Int) (z : Int) = ((n / 2 ^ f % 2 ^ z : Nat) : Int) := by
  have hl : lowF (n : Int) 62 = ((u64 (n : Int) % 2 ^ 62 : Nat) : Int) := lowF_eq n 62
  rw [u64_nat (by omega), Nat.mod_eq_of_lt hn] at hl
  unfold getF
  rw [placeF_id h, hl]
  simp only
  rw [shr_eq (by omega), lowF_eq, widthF_id (by omega) (by omega), u64_nat (Nat.lt_of_le_of_lt (Nat.div_le_self _ _) (by omega))]
  simp
theorem putF_nat {n f z : Nat} (v : Int) (hn : n < 2 ^ 62) (h : f + z ≤ 62) : putF (n : Int) (f : Int) (z : Int) v = ((2 ^ f * (2 ^ z * (n / 2 ^ (f + z)) + u64 v % 2 ^ z) + n % 2 ^ f : Nat) : Int) := by
  have hz : 2 ^ f * 2 ^ z ≤ 2 ^ 62 := by rw [← Nat.pow_add]; exact pow_le h
  have hz0 : 0 < 2 ^ z := Nat.pow_pos (by omega)
  have hf0 : 0 < 2 ^ f := Nat.pow_pos (by omega)
  have hV : u64 v % 2 ^ z < 2 ^ z := Nat.mod_lt _ hz0
  have hl : lowF (n : Int) 62 = ((u64 (n : Int) % 2 ^ 62 : Nat) : Int) := lowF_eq n 62
  rw [u64_nat (by omega), Nat.mod_eq_of_lt hn] at hl
  have hv : lowF v z = ((u64 v % 2 ^ z : Nat) : Int) := by rw [lowF_eq, widthF_id (by omega) (by omega)]; simp
  have b1 : (2 ^ z - 1) * 2 ^ f < 2 ^ 63 := by
    have : (2 ^ z - 1) * 2 ^ f ≤ 2 ^ z * 2 ^ f := Nat.mul_le_mul_right _ (by omega)
    rw [Nat.mul_comm (2 ^ z)] at this
    omega
  have b2 : u64 v % 2 ^ z * 2 ^ f < 2 ^ 63 := by
    have : u64 v % 2 ^ z * 2 ^ f ≤ 2 ^ z * 2 ^ f := Nat.mul_le_mul_right _ (by omega)
    rw [Nat.mul_comm (2 ^ z)] at this
    omega
  have key := fput_bits hn hV h
  have b3 : 2 ^ f * (2 ^ z * (n / 2 ^ (f + z)) + u64 v % 2 ^ z) + n % 2 ^ f < 2 ^ 62 := by
    rw [← key]
    refine Nat.or_lt_two_pow (Nat.xor_lt_two_pow hn (Nat.lt_of_le_of_lt Nat.and_le_left hn)) ?_
    have : u64 v % 2 ^ z * 2 ^ f < 2 ^ z * 2 ^ f := Nat.mul_lt_mul_of_pos_right hV hf0
    rw [Nat.mul_comm (2 ^ z)] at this
    omega
  rw [← key]
  unfold putF
  rw [placeF_id h]
  simp only
  rw [hl, hv, mask_eq (by omega), shl_eq b1 (by omega), shl_eq b2 (by omega)]
  have u1 : u64 (n : Int) = n := u64_nat (by omega)
  have u2 : u64 (((2 ^ z - 1) * 2 ^ f : Nat) : Int) = (2 ^ z - 1) * 2 ^ f := u64_nat (by omega)
  have u3 : u64 ((u64 v % 2 ^ z * 2 ^ f : Nat) : Int) = u64 v % 2 ^ z * 2 ^ f := u64_nat (by omega)
  rw [landNot_nat _ _ (by rw [u1]; omega), u1, u2]
  have u4 : u64 ((n ^^^ n &&& (2 ^ z - 1) * 2 ^ f : Nat) : Int) = n ^^^ (n &&& (2 ^ z - 1) * 2 ^ f) := u64_nat (by
    have : n ^^^ (n &&& (2 ^ z - 1) * 2 ^ f) < 2 ^ 62 := Nat.xor_lt_two_pow hn (Nat.lt_of_le_of_lt Nat.and_le_left hn)
    omega)
  rw [lor_nat _ _ (by rw [u3, u4, key]; omega), u3, u4]

end Go.Proofs.Ytblnigjmcjpopaa

/- Fields of numbers, by division. -/
namespace Go.Proofs.Ytblnigjmcjpopaa
open Go.Fw
set_option linter.unusedVariables false
set_option linter.unusedSimpArgs false
set_option maxRecDepth 100000

def getM : PSpec := ⟨[gi, gi, gi], fun (n, a, s, _) => (some (0 ≤ n ∧ n < 4611686018427387904 ∧ 0 ≤ a ∧ 0 ≤ s ∧ a + s ≤ 62), I (n / 2 ^ a.toNat % 2 ^ s.toNat), [])⟩
theorem getM_ok : GoodF Try.prog 143 getM.spec := by
  have hT := tab_ok (fs := [(186, placeS.spec), (70, lowS.spec)]) tree_ok
  have hP : SpecsOk Try.prog (tab tree [(186, placeS.spec), (70, lowS.spec)]) := specs_cons place_ok (specs_cons low_ok specs_nil)
  refine getM.good (fn := Try.f143) hT hP Try.func143 (by kernel_rfl) rfl fun (n a s : Int) hp => ?_
  obtain ⟨h1, h2, h3, h4, h5⟩ : 0 ≤ n ∧ n < 4611686018427387904 ∧ 0 ≤ a ∧ 0 ≤ s ∧ a + s ≤ 62 := hp _ rfl
  repeat' first
    | (refine Go.mk ?_; conv => whnf)
    | refine Need.go ?_ ?_
    | refine NilG.go (fun _ => ?_) (fun _ => ?_)
    | refine Br.dec (fun _ => ?_) (fun _ => ?_)
    | refine Br.go (fun _ => ?_) (fun _ => ?_)
    | refine draw_go hT hP mixed ?_
    | refine round_go hT hP ?_
  · exact (placeF_nn a s).1
  · refine .mk [] [] _ rfl rfl rfl rfl rfl rfl (imm_int ?_)
    show getF n a s = _
    obtain ⟨n, rfl⟩ := Int.eq_ofNat_of_zero_le h1
    obtain ⟨a, rfl⟩ := Int.eq_ofNat_of_zero_le h3
    obtain ⟨s, rfl⟩ := Int.eq_ofNat_of_zero_le h4
    rw [getF_nat (by omega) (by omega)]
    simp
def putM : PSpec := ⟨[gi, gi, gi, gi], fun (n, a, s, v, _) => (some (0 ≤ n ∧ n < 4611686018427387904 ∧ 0 ≤ a ∧ 0 ≤ s ∧ a + s ≤ 62), I (2 ^ a.toNat * (2 ^ s.toNat * (n / 2 ^ (a + s).toNat) + v % 2 ^ s.toNat) + n % 2 ^ a.toNat), [])⟩
theorem putM_ok : GoodF Try.prog 142 putM.spec := by
  have hT := tab_ok (fs := [(186, placeS.spec), (70, lowS.spec)]) tree_ok
  have hP : SpecsOk Try.prog (tab tree [(186, placeS.spec), (70, lowS.spec)]) := specs_cons place_ok (specs_cons low_ok specs_nil)
  refine putM.good (fn := Try.f142) hT hP Try.func142 (by kernel_rfl) rfl fun (n a s v : Int) hp => ?_
  obtain ⟨h1, h2, h3, h4, h5⟩ : 0 ≤ n ∧ n < 4611686018427387904 ∧ 0 ≤ a ∧ 0 ≤ s ∧ a + s ≤ 62 := hp _ rfl
  repeat' first
    | (refine Go.mk ?_; conv => whnf)
    | refine Need.go ?_ ?_
    | refine NilG.go (fun _ => ?_) (fun _ => ?_)
    | refine Br.dec (fun _ => ?_) (fun _ => ?_)
    | refine Br.go (fun _ => ?_) (fun _ => ?_)
    | refine draw_go hT hP mixed ?_
    | refine round_go hT hP ?_
  · exact (placeF_nn a s).2
  · exact (placeF_nn a s).1
  · exact (placeF_nn a s).1
  · refine .mk [] [] _ rfl rfl rfl rfl rfl rfl (imm_int ?_)
    show putF n a s v = _
    obtain ⟨n, rfl⟩ := Int.eq_ofNat_of_zero_le h1
    obtain ⟨a, rfl⟩ := Int.eq_ofNat_of_zero_le h3
    obtain ⟨s, rfl⟩ := Int.eq_ofNat_of_zero_le h4
    have e : ((a : Int) + (s : Int)).toNat = a + s := by omega
    rw [putF_nat v (by omega) (by omega), e, ← u64_mod v (by omega)]
    simp

end Go.Proofs.Ytblnigjmcjpopaa

/- The chip that counts down: its registers. -/
namespace Go.Proofs.Ytblnigjmcjpopaa
open Go.Fw
set_option linter.unusedVariables false
set_option linter.unusedSimpArgs false
set_option maxRecDepth 100000

theorem and_pow (n i : Nat) : n &&& 2 ^ i = n / 2 ^ i % 2 * 2 ^ i := by
  apply Nat.eq_of_testBit_eq
  intro j
  rw [Nat.testBit_and, Nat.testBit_two_pow]
  have hb : n.testBit i = decide (n / 2 ^ i % 2 = 1) := Nat.testBit_eq_decide_div_mod_eq
  rcases Nat.mod_two_eq_zero_or_one (n / 2 ^ i) with h | h
  · rw [h] at hb ⊢
    rw [Nat.zero_mul, Nat.zero_testBit]
    by_cases e : i = j
    · subst e; rw [hb]; simp
    · simp [e]
  · rw [h] at hb ⊢
    rw [Nat.one_mul, Nat.testBit_two_pow]
    by_cases e : i = j
    · subst e; rw [hb]; simp
    · simp [e]
theorem land_128 (k : Int) : land .i64 k 128 = k / 128 % 2 * 128 := by
  have e : u64 128 = 2 ^ 7 := by decide
  have h := and_pow (u64 k) 7
  have hb : u64 k / 2 ^ 7 % 2 ≤ 1 := by omega
  rw [land_nat _ _ (by rw [e, h]; omega), e, h]
  unfold u64
  omega

def twN (N : List Int) (a k : Int) : List Int :=
  [if a = 2 ∧ k / 128 % 2 = 1 then tB N else tA N, if a = 0 then tB N / 256 * 256 + k % 256 else if a = 1 then tB N % 256 + 256 * (k % 256) else tB N, if a = 2 then k % 8 else tC N, tF N]
def twriteS : PSpec := ⟨[gD, gi, gi], fun (d, a, k, _) => (none, devR, [.arr (.int .i64) (twN d.1 a k)])⟩
theorem twrite_ok : GoodF Try.prog 162 twriteS.spec := by
  have hT := tab_ok (fs := [(169, tfitS.spec), (70, lowM.spec), (142, putM.spec)]) tree_ok
  have hP : SpecsOk Try.prog (tab tree [(169, tfitS.spec), (70, lowM.spec), (142, putM.spec)]) := specs_cons tfit_ok (specs_cons lowM_ok (specs_cons putM_ok specs_nil))
  refine twriteS.good (fn := Try.f162) hT hP Try.func162 (by kernel_rfl) rfl fun (d : Dv) (a k : Int) _ => ?_
  obtain ⟨N, M⟩ := d
  obtain ⟨rA, rB, rC, rF⟩ := tR N
  repeat' first
    | (refine Go.mk ?_; conv => whnf)
    | refine Need.go ?_ ?_
    | refine NilG.go (fun _ => ?_) (fun _ => ?_)
    | refine Br.dec (fun _ => ?_) (fun _ => ?_)
    | refine Br.go (fun _ => ?_) (fun _ => ?_)
    | refine draw_go hT hP mixed ?_
    | refine round_go hT hP ?_
  all_goals (try subst_vars)
  all_goals first
    | exact rfl
    | exact of_decide_eq_true rfl
    | (refine ⟨?_, ?_, by decide, by decide, by decide⟩
       · exact rB.1
       · exact (by omega : tB N < 4611686018427387904))
    | skip
  · refine .mk [] [2] _ rfl rfl rfl rfl rfl (blk_eq (l := [tA N, 2 ^ (0 : Int).toNat * (2 ^ (8 : Int).toNat * (tB N / 2 ^ (0 + 8 : Int).toNat) + k % 2 ^ (8 : Int).toNat) + tB N % 2 ^ (0 : Int).toNat, tC N, tF N]) ?_) rfl
    show _ = twN N 0 k
    have e : (2 ^ (0 : Int).toNat * (2 ^ (8 : Int).toNat * (tB N / 2 ^ (0 + 8 : Int).toNat) + k % 2 ^ (8 : Int).toNat) + tB N % 2 ^ (0 : Int).toNat) = tB N / 256 * 256 + k % 256 := by
      show (1 : Int) * (256 * (tB N / 256) + k % 256) + tB N % 1 = _
      omega
    rw [e]; rfl
  · refine .mk [] [2] _ rfl rfl rfl rfl rfl (blk_eq (l := [tA N, 2 ^ (8 : Int).toNat * (2 ^ (8 : Int).toNat * (tB N / 2 ^ (8 + 8 : Int).toNat) + k % 2 ^ (8 : Int).toNat) + tB N % 2 ^ (8 : Int).toNat, tC N, tF N]) ?_) rfl
    show _ = twN N 1 k
    have e : (2 ^ (8 : Int).toNat * (2 ^ (8 : Int).toNat * (tB N / 2 ^ (8 + 8 : Int).toNat) + k % 2 ^ (8 : Int).toNat) + tB N % 2 ^ (8 : Int).toNat) = tB N % 256 + 256 * (k % 256) := by
      show (256 : Int) * (256 * (tB N / 65536) + k % 256) + tB N % 256 = _
      omega
    rw [e]; rfl
  · rename_i h _ _ _
    have h : (land .i64 k 128 != 0) = true := h
    refine .mk [] [2] _ rfl rfl rfl rfl rfl (blk_eq (l := [tB N, tB N, k % 2 ^ (3 : Int).toNat, tF N]) ?_) rfl
    show _ = twN N 2 k
    have h : k / 128 % 2 = 1 := by rw [land_128] at h; simp at h; omega
    rw [twN, if_pos ⟨rfl, h⟩]; rfl
  · rename_i h _ _ _
    have h : (land .i64 k 128 != 0) = false := h
    refine .mk [] [2] _ rfl rfl rfl rfl rfl (blk_eq (l := [tA N, tB N, k % 2 ^ (3 : Int).toNat, tF N]) ?_) rfl
    show _ = twN N 2 k
    have h : ¬ k / 128 % 2 = 1 := by rw [land_128] at h; simp at h; omega
    rw [twN, if_neg (fun e => h e.2)]; rfl
  · rename_i h0 h1 h2
    refine .mk [] [2] _ rfl rfl rfl rfl rfl (blk_eq (l := timN N) ?_) rfl
    show _ = twN N a k
    simp only [twN, timN_eq, if_neg h0, if_neg h1, if_neg h2]
    rw [if_neg (fun e => h2 e.1)]

def tstoredS : PSpec := ⟨[gC, gD, gi, gi], fun (c, d, a, k, _) => (some (c.2.1 = 3), devR, [.arr (.int .i64) (twN d.1 a k)])⟩
end Go.Proofs.Ytblnigjmcjpopaa

/- bakelaw1.TimerTicks answers true, whatever it is given. -/
namespace Go.Proofs.Ytblnigjmcjpopaa
open Go.Fw
set_option linter.unusedVariables false
set_option linter.unusedSimpArgs false
set_option maxRecDepth 100000

def timersS : PSpec := ⟨[], fun _ => (none, .cell (bv true), [])⟩
theorem iterT_succ (n : Nat) (l : List Int) : iterT (n + 1) l = tickT (iterT n l) := by
  rw [iterT_add n 1]; rfl
theorem len4 {l : List Int} (h : timN l = l) : l.length ≤ 4611686018427387904 := by
  rw [← h]; exact (by decide : 4 ≤ 4611686018427387904)
theorem iter_form (N : List Int) : ∀ n, timN (iterT n (timN N)) = iterT n (timN N)
  | 0 => timN_form N
  | n + 1 => by rw [iterT_succ]; exact tick_form (iter_form N n)
def ttS : PSpec := ⟨[gD, gi], fun (d, k, _) => (none, .cell (bv true), [])⟩
end Go.Proofs.Ytblnigjmcjpopaa

/- bakelaw1.TimerActs answers true, whatever it is given. -/
namespace Go.Proofs.Ytblnigjmcjpopaa
open Go.Fw
set_option linter.unusedVariables false
set_option linter.unusedSimpArgs false
set_option maxRecDepth 100000

theorem fin_read {l l' : List Int} {x y : Int} (h1 : l = l') (h2 : x = y) : [some (Blk.arr (.int .i64) l)] = [some (Blk.arr (.int .i64) l')] ∧ AV.tup [.agg [.own 0, .imm (.slice none 0 0)], I1 x] = AV.tup [.agg [.own 0, .imm (.slice none 0 0)], I1 y] := by rw [h1, h2]; exact ⟨rfl, rfl⟩
theorem tup_read {x y : Int} (h2 : x = y) : AV.tup [.agg [.own 0, .imm (.slice none 0 0)], I1 x] = AV.tup [.agg [.own 0, .imm (.slice none 0 0)], I1 y] := by rw [h2]

def trF (N : List Int) (a : Int) : Int := pickF [tA N % 256, tA N / 256, tC N, tF N] a
def trN (N : List Int) (a : Int) : List Int := [tA N, tB N, tC N, if a = 3 then 0 else tF N]
def treadS : PSpec := ⟨[gD, gi], fun (d, a, _) => (none, .tup [.agg [.own 0, .imm (.slice none 0 0)], I1 (trF d.1 a)], [.arr (.int .i64) (trN d.1 a)])⟩
theorem tread_ok : GoodF Try.prog 155 treadS.spec := by
  have hT := tab_ok (fs := [(169, tfitS.spec), (143, getM.spec)]) tree_ok
  have hP : SpecsOk Try.prog (tab tree [(169, tfitS.spec), (143, getM.spec)]) := specs_cons tfit_ok (specs_cons getM_ok specs_nil)
  refine treadS.good (fn := Try.f155) hT hP Try.func155 (by kernel_rfl) rfl fun (d : Dv) (a : Int) _ => ?_
  obtain ⟨N, M⟩ := d
  obtain ⟨rA, rB, rC, rF⟩ := tR N
  repeat' first
    | (refine Go.mk ?_; conv => whnf)
    | refine Need.go ?_ ?_
    | refine NilG.go (fun _ => ?_) (fun _ => ?_)
    | refine Br.dec (fun _ => ?_) (fun _ => ?_)
    | refine Br.go (fun _ => ?_) (fun _ => ?_)
    | refine draw_go hT hP mixed ?_
    | refine round_go hT hP ?_
  all_goals (try subst_vars)
  all_goals first
    | exact rfl
    | exact of_decide_eq_true rfl
    | (refine ⟨?_, ?_, by decide, by decide, by decide⟩
       · exact rA.1
       · exact (by omega : tA N < 4611686018427387904))
    | exact .mk [] [2] _ rfl rfl rfl rfl rfl rfl rfl
    | skip
  · refine .mk [] [2] _ rfl rfl rfl rfl rfl rfl (tup_read ?_)
    show tA N / 1 % 256 = tA N % 256
    omega
  · refine .mk [] [2] _ rfl rfl rfl rfl rfl rfl (tup_read ?_)
    show tA N / 256 % 256 = tA N / 256
    omega
  · rename_i h0 h1 h2 h3
    have e : trF N a = 0 := pick_no fun i hi => by
      have : i < 4 := hi
      omega
    refine .mk [] [2] _ rfl rfl rfl rfl rfl (blk_eq (l := timN N) ?_) (tup_read e.symm)
    show _ = trN N a
    rw [timN_eq, trN, if_neg h3]

def tloadedS : PSpec := ⟨[gC, gD, gi], fun (c, d, a, _) => (some (c.2.1 = 3), .tup [.agg [.own 0, .imm (.slice none 0 0)], I1 (trF d.1 a)], [.arr (.int .i64) (trN d.1 a)])⟩
def tirqS : PSpec := ⟨[gD], fun (d, _) => (none, .cell (bv (decide (tF d.1 = 1) && decide (tC d.1 ≥ 4))), [])⟩
def taskS : PSpec := ⟨[gC, gD], fun (c, d, _) => (some (c.2.1 = 3), .cell (bv (decide (tF d.1 = 1) && decide (tC d.1 ≥ 4))), [])⟩
def tnextF (N : List Int) : Int := if tC N % 2 = 0 then 100000 else tA N
def tnextS : PSpec := ⟨[gD], fun (d, _) => (none, I (tnextF d.1), [])⟩
def trestsS : PSpec := ⟨[gC, gD], fun (c, d, _) => (some (c.2.1 = 3), I (tnextF d.1), [])⟩
def tfreshS : PSpec := ⟨[gC], fun (c, _) => (some (c.2.1 = 3), devR, [.arr (.int .i64) [0, 0, 0, 0]])⟩
theorem tfresh_ok : GoodF Try.prog 50 tfreshS.spec := by
  have hT := tab_ok (fs := [(54, tformedS.spec)]) tree_ok
  have hP : SpecsOk Try.prog (tab tree [(54, tformedS.spec)]) := specs_cons tformed_ok specs_nil
  refine tfreshS.good (fn := Try.f50) hT hP Try.func50 (by kernel_rfl) rfl fun (c : Cv) hp => ?_
  obtain ⟨cn, ck, cb, cs, cd⟩ := c
  obtain rfl : ck = 3 := hp _ rfl
  repeat' first
    | (refine Go.mk ?_; conv => whnf)
    | refine Need.go ?_ ?_
    | refine NilG.go (fun _ => ?_) (fun _ => ?_)
    | refine Br.dec (fun _ => ?_) (fun _ => ?_)
    | refine Br.go (fun _ => ?_) (fun _ => ?_)
    | refine draw_go hT hP mixed ?_
    | refine round_go hT hP ?_
  · exact rfl
  · exact .mk [] [2] _ rfl rfl rfl rfl rfl rfl rfl

def taS : PSpec := ⟨[gD, gi, gi], fun (d, a, k, _) => (none, .cell (bv true), [])⟩
end Go.Proofs.Ytblnigjmcjpopaa

/- bakelaw1.SerialActs answers true, whatever it is given. -/
namespace Go.Proofs.Ytblnigjmcjpopaa
open Go.Fw
set_option linter.unusedVariables false
set_option linter.unusedSimpArgs false
set_option maxRecDepth 100000

theorem ctl4 {c : Int} (h0 : 0 ≤ c) (h1 : c < 4) : ((land .i64 c 1 != 0) = decide (c % 2 = 1)) ∧ ((land .i64 c 2 != 0) = decide (c ≥ 2)) := by
  have : c = 0 ∨ c = 1 ∨ c = 2 ∨ c = 3 := by omega
  rcases this with rfl | rfl | rfl | rfl <;> decide +kernel

def sfreshS : PSpec := ⟨[gC], fun (c, _) => (some (c.2.1 = 5), devR, [.arr (.int .i64) [0, 0, 0, 0, 0, 0, 0, 0]])⟩
theorem sfresh_ok : GoodF Try.prog 50 sfreshS.spec := by
  have hT := tab_ok (fs := [(54, sformedS.spec)]) tree_ok
  have hP : SpecsOk Try.prog (tab tree [(54, sformedS.spec)]) := specs_cons sformed_ok specs_nil
  refine sfreshS.good (fn := Try.f50) hT hP Try.func50 (by kernel_rfl) rfl fun (c : Cv) hp => ?_
  obtain ⟨cn, ck, cb, cs, cd⟩ := c
  obtain rfl : ck = 5 := hp _ rfl
  repeat' first
    | (refine Go.mk ?_; conv => whnf)
    | refine Need.go ?_ ?_
    | refine NilG.go (fun _ => ?_) (fun _ => ?_)
    | refine Br.dec (fun _ => ?_) (fun _ => ?_)
    | refine Br.go (fun _ => ?_) (fun _ => ?_)
    | refine draw_go hT hP mixed ?_
    | refine round_go hT hP ?_
  · exact rfl
  · exact .mk [] [2] _ rfl rfl rfl rfl rfl rfl rfl

def sloadedS : PSpec := ⟨[gC, gD, gi], fun (c, d, a, _) => (some (c.2.1 = 5), .tup [.agg [.own 0, .imm (.slice none 0 0)], I1 (srF d.1 a)], [.arr (.int .i64) (srN d.1 a)])⟩
def swN (N : List Int) (a k : Int) : List Int :=
  [if a = 0 ∧ s1 N = 0 then k % 256 else s0 N, if a = 0 ∧ s1 N = 0 then 40 else s1 N, s2 N, s3 N, s4 N, if a = 2 then k % 4 else s5 N, s6 N, s7 N]
def swriteS : PSpec := ⟨[gD, gi, gi], fun (d, a, k, _) => (none, devR, [.arr (.int .i64) (swN d.1 a k)])⟩
theorem swN_0 {N : List Int} {k : Int} (h : s1 N = 0) : swN N 0 k = [k % 256, 40, s2 N, s3 N, s4 N, s5 N, s6 N, s7 N] := by
  rw [swN, if_pos ⟨rfl, h⟩, if_pos ⟨rfl, h⟩, if_neg (by omega)]
theorem swN_2 {N : List Int} {k : Int} : swN N 2 k = [s0 N, s1 N, s2 N, s3 N, s4 N, k % 4, s6 N, s7 N] := by
  rw [swN, if_neg (fun e => by omega), if_neg (fun e => by omega), if_pos rfl]
theorem swN_no {N : List Int} {a k : Int} (h : ¬ (a = 0 ∧ s1 N = 0)) (h2 : ¬ a = 2) : swN N a k = serN N := by
  rw [swN, if_neg h, if_neg h, if_neg h2]; rfl
theorem swrite_ok : GoodF Try.prog 164 swriteS.spec := by
  have hT := tab_ok (fs := [(171, sfitS.spec), (70, lowM.spec)]) tree_ok
  have hP : SpecsOk Try.prog (tab tree [(171, sfitS.spec), (70, lowM.spec)]) := specs_cons sfit_ok (specs_cons lowM_ok specs_nil)
  refine swriteS.good (fn := Try.f164) hT hP Try.func164 (by kernel_rfl) rfl fun (d : Dv) (a k : Int) _ => ?_
  obtain ⟨N, M⟩ := d
  repeat' first
    | (refine Go.mk ?_; conv => whnf)
    | refine Need.go ?_ ?_
    | refine NilG.go (fun _ => ?_) (fun _ => ?_)
    | refine Br.dec (fun _ => ?_) (fun _ => ?_)
    | refine Br.go (fun _ => ?_) (fun _ => ?_)
    | refine draw_go hT hP mixed ?_
    | refine round_go hT hP ?_
  all_goals first
    | exact rfl
    | exact of_decide_eq_true rfl
    | skip
  · rename_i g0 g1
    have g1 : s1 N = 0 := g1
    subst g0
    refine .mk [] [2] _ rfl rfl rfl rfl rfl (blk_eqs (l := [k % 2 ^ (8 : Int).toNat, 40, s2 N, s3 N, s4 N, s5 N, s6 N, s7 N]) (l' := swN N 0 k) ?_) rfl
    rw [swN_0 g1]; rfl
  · rename_i g0 g1 g2
    omega
  · rename_i g0 g1 g2
    have g1 : ¬ s1 N = 0 := g1
    refine .mk [] [2] _ rfl rfl rfl rfl rfl (blk_eqs (l := serN N) (l' := swN N a k) ?_) rfl
    rw [swN_no (fun e => g1 e.2) g2]
  · rename_i g0 g1
    subst g1
    refine .mk [] [2] _ rfl rfl rfl rfl rfl (blk_eqs (l := [s0 N, s1 N, s2 N, s3 N, s4 N, k % 2 ^ (2 : Int).toNat, s6 N, s7 N]) (l' := swN N 2 k) ?_) rfl
    rw [swN_2]; rfl
  · rename_i g0 g1
    refine .mk [] [2] _ rfl rfl rfl rfl rfl (blk_eqs (l := serN N) (l' := swN N a k) ?_) rfl
    rw [swN_no (fun e => g0 e.1) g1]

def sstoredS : PSpec := ⟨[gC, gD, gi, gi], fun (c, d, a, k, _) => (some (c.2.1 = 5), devR, [.arr (.int .i64) (swN d.1 a k)])⟩
def sgivenS : PSpec := ⟨[gC, gD, gi], fun (c, d, k, _) => (some (c.2.1 = 5), devR, [.arr (.int .i64) (sinN d.1 k)])⟩
def sirqF (N : List Int) : Bool := (decide (s5 N % 2 = 1) && decide (s3 N = 1)) || (decide (s5 N ≥ 2) && decide (s1 N = 0))
theorem sirq1 {N : List Int} (h : s5 N % 2 = 1) (h2 : s3 N = 1) : true = sirqF N := by unfold sirqF; rw [decide_eq_true h, decide_eq_true h2]; rfl
theorem sirq2 {N : List Int} (h : ¬ (s5 N % 2 = 1 ∧ s3 N = 1)) (h2 : s5 N ≥ 2) : decide (s1 N = 0) = sirqF N := by
  unfold sirqF
  rw [← Bool.decide_and, decide_eq_false h, decide_eq_true h2]; rfl
theorem sirq3 {N : List Int} (h : ¬ (s5 N % 2 = 1 ∧ s3 N = 1)) (h2 : ¬ s5 N ≥ 2) : false = sirqF N := by
  unfold sirqF
  rw [← Bool.decide_and, decide_eq_false h, decide_eq_false h2]; rfl
def sirqS : PSpec := ⟨[gD], fun (d, _) => (none, .cell (bv (sirqF d.1)), [])⟩
def saskS : PSpec := ⟨[gC, gD], fun (c, d, _) => (some (c.2.1 = 5), .cell (bv (sirqF d.1)), [])⟩
def soutS : PSpec := ⟨[gD], fun (d, _) => (none, I (s6 d.1 * 256 + s7 d.1), [])⟩
def sshowsS : PSpec := ⟨[gC, gD], fun (c, d, _) => (some (c.2.1 = 5), I (s6 d.1 * 256 + s7 d.1), [])⟩
def snextF (N : List Int) : Int := if s1 N = 0 then 100000 else s1 N - 1
def snextS : PSpec := ⟨[gD], fun (d, _) => (none, I (snextF d.1), [])⟩
def srestsS : PSpec := ⟨[gC, gD], fun (c, d, _) => (some (c.2.1 = 5), I (snextF d.1), [])⟩
def saS : PSpec := ⟨[gD, gi, gi], fun (d, a, k, _) => (none, .cell (bv true), [])⟩
end Go.Proofs.Ytblnigjmcjpopaa

/- The two voices as plain functions. -/
namespace Go.Proofs.Ytblnigjmcjpopaa
open Go.Fw
set_option linter.unusedVariables false
set_option linter.unusedSimpArgs false

/-- the numbers of a voice, from a place on -/
def vo (N : List Int) (i : Nat) : List Int := [N.getD i 0 % 4096, N.getD (i + 1) 0 % 16, N.getD (i + 2) 0 % 256, N.getD (i + 3) 0 % 4096, N.getD (i + 4) 0 % 2, N.getD (i + 5) 0 % 16384]
def sndN (N : List Int) : List Int := vo N 0 ++ vo N 6
def passV (k : Int) : List Int → List Int
  | [p, v, r, c, f, w] =>
    [p, if (r > 0 ∧ v > 0) ∧ w + k ≥ r * 64 then v - 1 else v, r, if p > 0 then (if c + k ≥ p then 0 else c + k) else c, if p > 0 ∧ c + k ≥ p then 1 - f else f,
      if r > 0 ∧ v > 0 then (if w + k ≥ r * 64 then 0 else w + k) else w]
  | l => l
def quietV : List Int → Int
  | [p, v, r, c, f, w] => min (if p > 0 then max 1 (p - c) - 1 else 100000) (if r > 0 ∧ v > 0 then max 1 (r * 64 - w) - 1 else 100000)
  | _ => 100000
inductive vOk : List Int → Prop
  | mk {p v r c f w : Int} (hp : 0 ≤ p ∧ p < 4096) (hv : 0 ≤ v ∧ v < 16) (hr : 0 ≤ r ∧ r < 256) (hc : 0 ≤ c ∧ c < 4096) (hf : 0 ≤ f ∧ f < 2) (hw : 0 ≤ w ∧ w < 16384) : vOk [p, v, r, c, f, w]
theorem vo_ok (N : List Int) (i : Nat) : vOk (vo N i) := ⟨by omega, by omega, by omega, by omega, by omega, by omega⟩
theorem vOk.len {l : List Int} (h : vOk l) : l.length = 6 := by cases h; rfl
theorem vo_idem {l : List Int} (h : vOk l) : vo l 0 = l := by
  cases h with
  | mk hp hv hr hc hf hw =>
    rename_i p v r c f w
    show [p % 4096, v % 16, r % 256, c % 4096, f % 2, w % 16384] = _
    rw [Int.emod_eq_of_lt hp.1 hp.2, Int.emod_eq_of_lt hv.1 hv.2, Int.emod_eq_of_lt hr.1 hr.2, Int.emod_eq_of_lt hc.1 hc.2, Int.emod_eq_of_lt hf.1 hf.2, Int.emod_eq_of_lt hw.1 hw.2]
theorem vo_add {a b : List Int} (h : a.length = 6) : vo (a ++ b) 6 = vo b 0 := by
  have e : ∀ j, (a ++ b).getD (6 + j) 0 = b.getD j 0 := by
    intro j
    simp only [List.getD_eq_getElem?_getD]
    rw [List.getElem?_append_right (by omega)]
    have : 6 + j - a.length = j := by omega
    rw [this]
  unfold vo
  rw [show (a ++ b).getD 6 0 = b.getD 0 0 from e 0, show (a ++ b).getD (6 + 1) 0 = b.getD 1 0 from e 1, show (a ++ b).getD (6 + 2) 0 = b.getD 2 0 from e 2, show (a ++ b).getD (6 + 3) 0 = b.getD 3 0 from e 3,
    show (a ++ b).getD (6 + 4) 0 = b.getD 4 0 from e 4, show (a ++ b).getD (6 + 5) 0 = b.getD 5 0 from e 5]
theorem vo_fst {a b : List Int} (h : vOk a) : vo (a ++ b) 0 = vo a 0 := by cases h; rfl
theorem snd_idem {a b : List Int} (ha : vOk a) (hb : vOk b) : sndN (a ++ b) = a ++ b := by
  rw [sndN, vo_fst ha, vo_add ha.len, vo_idem ha, vo_idem hb]
theorem passV_ok {l : List Int} (h : vOk l) {k : Int} (hk : 0 ≤ k) : vOk (passV k l) := by
  cases h with
  | mk hp hv hr hc hf hw =>
    refine ⟨hp, ?_, hr, ?_, ?_, ?_⟩
    · split <;> omega
    · split
      · split <;> omega
      · exact hc
    · split <;> omega
    · split
      · split <;> omega
      · exact hw
theorem passV_len (k : Int) (l : List Int) : (passV k l).length = l.length := by
  unfold passV; split <;> rfl
theorem l6 {a b c d e f a' b' c' d' e' f' : Int} (h1 : a = a') (h2 : b = b') (h3 : c = c') (h4 : d = d') (h5 : e = e') (h6 : f = f') : [a, b, c, d, e, f] = [a', b', c', d', e', f'] := by rw [h1, h2, h3, h4, h5, h6]
/-- some quiet cycles, then one more -/
theorem passV_add {l : List Int} (h : vOk l) {j : Int} (hj : 0 < j) (hq : j ≤ quietV l) : passV 1 (passV j l) = passV (j + 1) l := by
  cases h with
  | mk hp hv hr hc hf hw =>
    rename_i p v r c f w
    have e1 : quietV [p, v, r, c, f, w] = min (if p > 0 then max 1 (p - c) - 1 else 100000) (if r > 0 ∧ v > 0 then max 1 (r * 64 - w) - 1 else 100000) := rfl
    rw [e1] at hq
    have q1 : p > 0 → ¬ c + j ≥ p := fun h => by rw [if_pos h] at hq; omega
    have q2 : r > 0 ∧ v > 0 → ¬ w + j ≥ r * 64 := fun h => by rw [if_pos h] at hq; omega
    have e2 : passV j [p, v, r, c, f, w] = [p, v, r, if p > 0 then c + j else c, f, if r > 0 ∧ v > 0 then w + j else w] := by
      refine l6 rfl ?_ rfl ?_ ?_ ?_
      · exact if_neg fun h => q2 h.1 h.2
      · by_cases h : p > 0
        · rw [if_pos h, if_pos h, if_neg (q1 h)]
        · rw [if_neg h, if_neg h]
      · exact if_neg fun h => q1 h.1 h.2
      · by_cases h : r > 0 ∧ v > 0
        · rw [if_pos h, if_pos h, if_neg (q2 h)]
        · rw [if_neg h, if_neg h]
    rw [e2]
    by_cases g1 : p > 0
    · rw [if_pos g1]
      by_cases g2 : r > 0 ∧ v > 0
      · rw [if_pos g2]
        refine l6 rfl ?_ rfl ?_ ?_ ?_ <;> simp only [g1, g2, and_self, true_and, if_true, Int.add_assoc]
      · rw [if_neg g2]
        refine l6 rfl ?_ rfl ?_ ?_ ?_ <;> simp only [g1, g2, false_and, true_and, if_true, if_false, Int.add_assoc]
    · rw [if_neg g1]
      by_cases g2 : r > 0 ∧ v > 0
      · rw [if_pos g2]
        refine l6 rfl ?_ rfl ?_ ?_ ?_ <;> simp only [g1, g2, and_self, false_and, true_and, if_true, if_false, Int.add_assoc]
      · rw [if_neg g2]
        refine l6 rfl ?_ rfl ?_ ?_ ?_ <;> simp only [g1, g2, false_and, if_false]
theorem passV_idle {l : List Int} (h : vOk l) (hq : quietV l = 100000) (k : Int) : passV k l = l := by
  cases h with
  | mk hp hv hr hc hf hw =>
    rename_i p v r c f w
    have e1 : quietV [p, v, r, c, f, w] = min (if p > 0 then max 1 (p - c) - 1 else 100000) (if r > 0 ∧ v > 0 then max 1 (r * 64 - w) - 1 else 100000) := rfl
    rw [e1] at hq
    have g1 : ¬ p > 0 := fun h => by rw [if_pos h] at hq; omega
    have g2 : ¬ (r > 0 ∧ v > 0) := fun h => by rw [if_pos h] at hq; omega
    refine l6 rfl ?_ rfl ?_ ?_ ?_
    · exact if_neg fun h => g2 h.1
    · exact if_neg g1
    · exact if_neg fun h => g1 h.1
    · exact if_neg g2
theorem quietV_in {l : List Int} (h : vOk l) : 0 ≤ quietV l ∧ quietV l ≤ 100000 := by
  cases h with
  | mk hp hv hr hc hf hw =>
    rename_i p v r c f w
    have e1 : quietV [p, v, r, c, f, w] = min (if p > 0 then max 1 (p - c) - 1 else 100000) (if r > 0 ∧ v > 0 then max 1 (r * 64 - w) - 1 else 100000) := rfl
    rw [e1]
    by_cases g1 : p > 0 <;> by_cases g2 : r > 0 ∧ v > 0 <;> simp only [g1, g2, and_self, if_true, if_false] <;> omega
theorem iterP_ok {l : List Int} (h : vOk l) : ∀ n, vOk (iterF (passV 1) n l)
  | 0 => h
  | n + 1 => by rw [iterF_succ]; exact passV_ok (iterP_ok h n) (by decide)
theorem iterP_run {l : List Int} (h : vOk l) : ∀ n : Nat, 0 < n → (n : Int) ≤ quietV l + 1 → iterF (passV 1) n l = passV n l
  | 1, _, _ => rfl
  | n + 2, _, hq => by
    rw [iterF_succ, iterP_run h (n + 1) (by omega) (by omega), passV_add h (by omega) (by omega)]; rfl
theorem iterP_idle {l : List Int} (h : vOk l) (hq : quietV l = 100000) (n : Nat) : iterF (passV 1) n l = l := iterF_fix (passV_idle h hq 1) n
theorem voice_end {a : List Int} (h : vOk a) {r : Int} (hr : 0 < r) (hq : quietV a ≥ r ∨ quietV a = 100000) : passV r a = iterF (passV 1) r.toNat a := by
  rcases hq with hq | hq
  · rw [iterP_run h r.toNat (by omega) (by omega)]
    have e : ((r.toNat : Nat) : Int) = r := by omega
    rw [e]
  · rw [iterP_idle h hq, passV_idle h hq]
theorem voice_step {a : List Int} (h : vOk a) {r : Int} (hq : quietV a < r) : iterF (passV 1) (r - (quietV a + 1)).toNat (passV (quietV a + 1) a) = iterF (passV 1) r.toNat a := by
  have hq0 := quietV_in h
  have e : r.toNat = (quietV a + 1).toNat + (r - (quietV a + 1)).toNat := by omega
  rw [e, iterF_add, iterP_run h (quietV a + 1).toNat (by omega) (by omega)]
  have e2 : (((quietV a + 1).toNat : Nat) : Int) = quietV a + 1 := by omega
  rw [e2]
theorem fst6 {a b : List Int} (h : a.length = 6) : ((a ++ b).drop 0).take 6 = a := List.take_left' h
theorem snd6 {a b : List Int} (h : a.length = 6) (h2 : b.length = 6) : ((a ++ b).drop 6).take 6 = b := by rw [List.drop_left' h]; exact List.take_of_length_le (by omega)
theorem heap2 {x : Blk} {l l' : List Int} (h : l = l') : [some x, some (Blk.arr (.int .i64) l)] = [some x, some (Blk.arr (.int .i64) l')] := by rw [h]
/-- a voice within the state -/
def passL (off : Nat) (l : List Int) (k : Int) : List Int := l.take off ++ (passV k ((l.drop off).take 6) ++ l.drop (off + 6))
theorem passL_fst {a b : List Int} (h : a.length = 6) (k : Int) : passL 0 (a ++ b) k = passV k a ++ b := by
  unfold passL
  simp [← h]
theorem passL_snd {a b : List Int} (h : a.length = 6) (h2 : b.length = 6) (k : Int) : passL 6 (a ++ b) k = a ++ passV k b := by
  unfold passL
  rw [List.take_left' h, List.drop_left' h, List.take_of_length_le (by omega), List.drop_eq_nil_of_le (by simp [h, h2]), List.append_nil]
def tickW (l : List Int) : List Int := passV 1 (l.take 6) ++ passV 1 (l.drop 6)
theorem tickW_app {a b : List Int} (h : a.length = 6) : tickW (a ++ b) = passV 1 a ++ passV 1 b := by unfold tickW; simp [← h]
theorem iterW {a b : List Int} (ha : vOk a) (hb : vOk b) : ∀ n, iterF tickW n (a ++ b) = iterF (passV 1) n a ++ iterF (passV 1) n b
  | 0 => rfl
  | n + 1 => by rw [iterF_succ, iterW ha hb n, tickW_app (iterP_ok ha n).len, iterF_succ, iterF_succ]

end Go.Proofs.Ytblnigjmcjpopaa

/- The chip with two voices: its state, the passing of cycles. -/
namespace Go.Proofs.Ytblnigjmcjpopaa
open Go.Fw
set_option linter.unusedVariables false
set_option linter.unusedSimpArgs false
set_option maxRecDepth 100000

def ofitS : PSpec := ⟨[gD], fun (d, _) => (none, .cell (.own 0), [.arr (.int .i64) (sndN d.1)])⟩
set_option maxHeartbeats 4000000 in
theorem ofit_ok : GoodF Try.prog 174 ofitS.spec := by
  have hT := tab_ok (fs := [(70, lowM.spec)]) tree_ok
  have hP : SpecsOk Try.prog (tab tree [(70, lowM.spec)]) := specs_cons lowM_ok specs_nil
  refine ofitS.good (fn := Try.f174) hT hP Try.func174 (by kernel_rfl) rfl fun (d : Dv) _ => ?_
  obtain ⟨N, M⟩ := d
  repeat' first
    | (refine Go.mk ?_; conv => whnf)
    | refine Need.go ?_ ?_
    | refine NilG.go (fun _ => ?_) (fun _ => ?_)
    | refine Br.dec (fun _ => ?_) (fun _ => ?_)
    | refine Br.go (fun _ => ?_) (fun _ => ?_)
    | refine loop_unroll 7 ?_
    | refine round_go hT hP ?_
  all_goals first
    | exact of_decide_eq_true rfl
    | exact .mk [] [1] _ rfl rfl rfl rfl rfl rfl rfl

def onewS : PSpec := ⟨[], fun _ => (none, devR, [.arr (.int .i64) (List.replicate 12 0)])⟩
theorem onew_ok : GoodF Try.prog 108 onewS.spec := by
  have hT := tab_ok (fs := []) tree_ok
  have hP : SpecsOk Try.prog (tab tree []) := specs_nil
  refine onewS.good (fn := Try.f108) hT hP Try.func108 (by kernel_rfl) rfl fun _ => ?_
  repeat' first
    | (refine Go.mk ?_; conv => whnf)
    | refine Need.go ?_ ?_
    | refine NilG.go (fun _ => ?_) (fun _ => ?_)
    | refine Br.dec (fun _ => ?_) (fun _ => ?_)
    | refine Br.go (fun _ => ?_) (fun _ => ?_)
    | refine draw_go hT hP mixed ?_
    | refine round_go hT hP ?_
  all_goals first
    | exact of_decide_eq_true rfl
    | exact .mk [] [1] _ rfl rfl rfl rfl rfl rfl rfl

def quietS : PSpec := ⟨[gl], fun (l, _) => (some (vOk l), I (quietV l), [])⟩
theorem quiet_ok : GoodF Try.prog 175 quietS.spec := by
  have hT := tab_ok (fs := []) tree_ok
  have hP : SpecsOk Try.prog (tab tree []) := specs_nil
  refine quietS.good (fn := Try.f175) hT hP Try.func175 (by kernel_rfl) rfl fun (l : List Int) hq => ?_
  have hp : vOk l := hq _ rfl
  cases hp with
  | mk hp hv hr hc hf hw =>
  rename_i p v r c f w
  have e1 : quietV [p, v, r, c, f, w] = min (if p > 0 then max 1 (p - c) - 1 else 100000) (if r > 0 ∧ v > 0 then max 1 (r * 64 - w) - 1 else 100000) := rfl
  repeat' first
    | (refine Go.mk ?_; conv => whnf)
    | refine Need.go ?_ ?_
    | refine NilG.go (fun _ => ?_) (fun _ => ?_)
    | refine Br.dec (fun _ => ?_) (fun _ => ?_)
    | refine Br.go (fun _ => ?_) (fun _ => ?_)
    | refine draw_go hT hP mixed ?_
    | refine round_go hT hP ?_
  all_goals first
    | exact of_decide_eq_true rfl
    | skip
  all_goals
    refine .mk [] [] _ rfl rfl rfl rfl rfl rfl (imm_int ?_)
    show _ = quietV [p, v, r, c, f, w]
    rw [e1]
    have ew1 : IntKind.i64.wrap (p - c) = p - c := w64 (by omega) (by omega)
    have ew2 : IntKind.i64.wrap (r * 64) = r * 64 := w64 (by omega) (by omega)
    have ew3 : IntKind.i64.wrap (r * 64 - w) = r * 64 - w := w64 (by omega) (by omega)
    have ew4 : IntKind.i64.wrap (max 1 (p - c) - 1) = max 1 (p - c) - 1 := w64 (by omega) (by omega)
    have ew5 : IntKind.i64.wrap (max 1 (r * 64 - w) - 1) = max 1 (r * 64 - w) - 1 := w64 (by omega) (by omega)
    clear hT hP hq
    simp [ew1, ew2, ew3, ew4, ew5, imax_eq, imin_eq] at *
    first | omega | (simp [*]; done) | (simp [*]; omega)

def passS : WSpec := ⟨Nat × List Int × Int, fun x => [.c (.sub 0 x.1 6), .c (iv .i64 x.2.2)], fun x => [.arr (.int .i64) x.2.1],
  fun a b => (match a, b with | [.c (.sub 0 off 6), .c (.imm (.int .i64 k))], [.arr (.int .i64) l] => some (off, l, k) | _, _ => none),
  fun x => (some ((x.1 = 0 ∨ x.1 = 6) ∧ (∃ a b, x.2.1 = a ++ b ∧ vOk a ∧ vOk b) ∧ 0 ≤ x.2.2 ∧ x.2.2 ≤ 10000000), .tup [], [some (.arr (.int .i64) (passL x.1 x.2.1 x.2.2))], [])⟩
theorem pass_ok : GoodF Try.prog 176 passS.spec := by
  have hT := tab_ok (fs := []) tree_ok
  have hP : SpecsOk Try.prog (tab tree []) := specs_nil
  refine passS.good (fn := Try.f176) hT hP Try.func176 (by kernel_rfl) rfl ?_ fun ((off, l, k) : Nat × List Int × Int) hq => ?_
  · intro a b x h
    simp only [passS] at h
    split at h
    · injection h with h; subst h; exact ⟨rfl, rfl⟩
    · cases h
  obtain ⟨ho, ⟨a, b, hl, ha, hb⟩, hk0, hk1⟩ : (off = 0 ∨ off = 6) ∧ (∃ a b, l = a ++ b ∧ vOk a ∧ vOk b) ∧ 0 ≤ k ∧ k ≤ 10000000 := hq _ rfl
  rcases ho with rfl | rfl
  · cases ha with
    | mk hp hv hr hc hf hw =>
    cases hb with
    | mk hp' hv' hr' hc' hf' hw' =>
    obtain rfl := hl
    rename_i p v r c f w p' v' r' c' f' w'
    repeat' first
      | (refine Go.mk ?_; conv => whnf)
      | refine Need.go ?_ ?_
      | refine NilG.go (fun _ => ?_) (fun _ => ?_)
      | refine Br.dec (fun _ => ?_) (fun _ => ?_)
      | refine Br.go (fun _ => ?_) (fun _ => ?_)
      | refine draw_go hT hP mixed ?_
      | refine round_go hT hP ?_
    all_goals first
      | exact of_decide_eq_true rfl
      | skip
    all_goals
      refine .mk [] [0] _ rfl rfl rfl rfl rfl (blk_eqs ?_) rfl
      have ew1 : IntKind.i64.wrap (c + k) = c + k := w64 (by omega) (by omega)
      have ew2 : IntKind.i64.wrap (1 - f) = 1 - f := w64 (by omega) (by omega)
      have ew3 : IntKind.i64.wrap (w + k) = w + k := w64 (by omega) (by omega)
      have ew4 : IntKind.i64.wrap (r * 64) = r * 64 := w64 (by omega) (by omega)
      have ew5 : IntKind.i64.wrap (v - 1) = v - 1 := w64 (by omega) (by omega)
      clear hT hP hq
      simp [ew1, ew2, ew3, ew4, ew5] at *
      try simp [passL, passV, *]
    all_goals (repeat' first | refine And.intro ?_ ?_ | intro _)
    all_goals first | omega | (exfalso; omega)
  · cases ha with
    | mk hp hv hr hc hf hw =>
    cases hb with
    | mk hp' hv' hr' hc' hf' hw' =>
    obtain rfl := hl
    rename_i p' v' r' c' f' w' p v r c f w
    repeat' first
      | (refine Go.mk ?_; conv => whnf)
      | refine Need.go ?_ ?_
      | refine NilG.go (fun _ => ?_) (fun _ => ?_)
      | refine Br.dec (fun _ => ?_) (fun _ => ?_)
      | refine Br.go (fun _ => ?_) (fun _ => ?_)
      | refine draw_go hT hP mixed ?_
      | refine round_go hT hP ?_
    all_goals first
      | exact of_decide_eq_true rfl
      | skip
    all_goals
      refine .mk [] [0] _ rfl rfl rfl rfl rfl (blk_eqs ?_) rfl
      have ew1 : IntKind.i64.wrap (c + k) = c + k := w64 (by omega) (by omega)
      have ew2 : IntKind.i64.wrap (1 - f) = 1 - f := w64 (by omega) (by omega)
      have ew3 : IntKind.i64.wrap (w + k) = w + k := w64 (by omega) (by omega)
      have ew4 : IntKind.i64.wrap (r * 64) = r * 64 := w64 (by omega) (by omega)
      have ew5 : IntKind.i64.wrap (v - 1) = v - 1 := w64 (by omega) (by omega)
      clear hT hP hq
      simp [ew1, ew2, ew3, ew4, ew5] at *
      try simp [passL, passV, *]
    all_goals (repeat' first | refine And.intro ?_ ?_ | intro _)
    all_goals first | omega | (exfalso; omega)

end Go.Proofs.Ytblnigjmcjpopaa

