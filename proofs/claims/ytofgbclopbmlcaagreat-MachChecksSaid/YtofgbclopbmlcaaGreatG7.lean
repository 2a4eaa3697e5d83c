/- Part 7 of the proof: DriveActs Bit Ref Fw35 Fw37 PortLaw Port TimerLaw Timer Field GetPut Timer2 TimerTicks TimerActs SerialActs SoundLaw Sound Sound2 Sound3 Sound4 Sound5 Core Name Byte EncLaw. No statement is handed in here; conditions: none. -/
import Derived.Test.YtofgbclopbmlcaaGreatG6
import Derived.WalkKit
import Derived.Lib.Walk
import Derived.Lib.Bytealg
/- bakelaw1.DriveActs answers true, whatever it is given. -/
namespace Go.Proofs.YtofgbclopbmlcaaGreat
open Go.Fw
set_option linter.unusedVariables false
set_option linter.unusedSimpArgs false
set_option maxRecDepth 100000

abbrev e0 (N : List Int) (q : Nat) : Int := if N.getD 0 0 % 256 > q then 0 else N.getD 0 0 % 256
abbrev e1 (N : List Int) : Int := N.getD 1 0 % 4
abbrev e2 (N : List Int) : Int := if N.getD 2 0 % 8 > 4 then 0 else N.getD 2 0 % 8
abbrev e3 (N : List Int) : Int := N.getD 3 0 % 4
abbrev e4 (N : List Int) : Int := N.getD 4 0 % 16
abbrev e5 (N : List Int) : Int := N.getD 5 0 % 64
abbrev e6 (N : List Int) : Int := N.getD 6 0 % 256
abbrev e7 (N : List Int) : Int := N.getD 7 0 % 2
abbrev e8 (N : List Int) : Int := N.getD 8 0 % 2
abbrev e9 (N : List Int) : Int := N.getD 9 0 % 2
theorem dN_eq (N : List Int) (q : Nat) : dN N q = [e0 N q, e1 N, e2 N, e3 N, e4 N, e5 N, e6 N, e7 N, e8 N, e9 N] := rfl
theorem eR (N : List Int) (q : Nat) : (0 ≤ e0 N q ∧ e0 N q < 256) ∧ (0 ≤ e1 N ∧ e1 N < 4) ∧ (0 ≤ e2 N ∧ e2 N ≤ 4) ∧ (0 ≤ e3 N ∧ e3 N < 4) ∧ (0 ≤ e4 N ∧ e4 N < 16) ∧ (0 ≤ e5 N ∧ e5 N < 64) ∧ (0 ≤ e6 N ∧ e6 N < 256) ∧ (0 ≤ e7 N ∧ e7 N < 2) ∧ (0 ≤ e8 N ∧ e8 N < 2) ∧ (0 ≤ e9 N ∧ e9 N < 2) := by
  unfold e0 e1 e2 e3 e4 e5 e6 e7 e8 e9
  refine ⟨?_, ?_, ?_, ?_, ?_, ?_, ?_, ?_, ?_, ?_⟩
  · split <;> omega
  · omega
  · split <;> omega
  all_goals omega

theorem agg_ro {m m' : List Int} (h : m = m') : AV.agg [.own 0, .ro (.int .u8) m] = AV.agg [.own 0, .ro (.int .u8) m'] := by rw [h]
def dformedRS : PSpec := ⟨[gC, gD], fun (c, d, _) => (some (c.2.1 = 8 ∧ List.length d.2 ≤ 140737488355328), .agg [.own 0, .ro (.int .u8) (dM d.2)], [.arr (.int .i64) (dN d.1 (qF d.2))])⟩
def dformedR0S : PSpec := ⟨[gC, gD], fun (c, d, _) => (some (c.2.1 = 8 ∧ List.length d.2 ≤ 140737488355328 ∧ qF d.2 = 0), .agg [.own 0, .ro (.int .u8) []], [.arr (.int .i64) (dN d.1 (qF d.2))])⟩
theorem dformedR0_ok : GoodF Tryz.prog 58 dformedR0S.spec :=
  GoodF.map dformed0_ok fun (c, d, _) hp => ⟨hp, rfl, fun E v h => h.nil_ro⟩
def dformedR1S : PSpec := ⟨[gC, gD], fun (c, d, _) => (some (c.2.1 = 8 ∧ List.length d.2 ≤ 140737488355328 ∧ 0 < qF d.2), .agg [.own 0, .ro (.int .u8) (dM d.2)], [.arr (.int .i64) (dN d.1 (qF d.2))])⟩
theorem dformedR1_ok : GoodF Tryz.prog 58 dformedR1S.spec := by
  have hT := tab_ok (fs := [(108, formS.spec)]) tree_ok
  have hP : SpecsOk Tryz.prog (tab tree [(108, formS.spec)]) := specs_cons form_ok specs_nil
  refine dformedR1S.good (fn := Tryz.f58) hT hP Tryz.func58 (by kernel_rfl) rfl fun (c : Cv) (d : Dv) hp => ?_
  obtain ⟨cn, ck, cb, cs, cd⟩ := c
  obtain ⟨N, M⟩ := d
  obtain ⟨rfl, hl, h0⟩ : ck = 8 ∧ M.length ≤ 140737488355328 ∧ 0 < qF M := hp _ rfl
  have hq := qF_int M hl
  have hq2 := qF_le M
  have hm : over (List.replicate (IntKind.i64.wrap (IntKind.i64.wrap (Int.tdiv (M.length : Int) 256) * 256)).toNat 0) M 0 = dM M := by
    rw [hq]; exact over_take M hq2
  repeat' first
    | (refine Go.mk ?_; conv => whnf)
    | refine Need.go ?_ ?_
    | refine NilG.go (fun _ => ?_) (fun _ => ?_)
    | refine Br.dec (fun _ => ?_) (fun _ => ?_)
    | refine Br.go (fun _ => ?_) (fun _ => ?_)
    | refine draw_go hT hP mixed ?_
    | refine round_go hT hP ?_
  all_goals first
    | exact dmods_ok
    | exact of_decide_eq_true rfl
    | skip
  all_goals first
    | (exfalso; rename_i h; have h : ¬ IntKind.i64.wrap (IntKind.i64.wrap (Int.tdiv (M.length : Int) 256) * 256) > 0 := h; rw [hq] at h; omega)
    | (have e : ty5.bytes = 1 := rfl
       rw [e, show (List.length (N, M).2) = M.length from rfl, hq]; omega)
    | (rename_i h1 h2 h
       have h1 : IntKind.i64.wrap (N.getD 0 0 % 256 * 256) > IntKind.i64.wrap (IntKind.i64.wrap (Int.tdiv (M.length : Int) 256) * 256) := h1
       have h2 : N.getD 2 0 % 8 > 4 := h2
       rw [hq, w64 (by omega) (by omega)] at h1
       refine .mk [6] [5] _ rfl rfl rfl rfl rfl (blk_eqs (l := dL N 0 0) (l' := dN N (qF M)) ?_) (agg_ro hm)
       rw [dN_if, if_pos (by omega), if_pos h2]; rfl)
    | (rename_i h1 h2 h
       have h1 : IntKind.i64.wrap (N.getD 0 0 % 256 * 256) > IntKind.i64.wrap (IntKind.i64.wrap (Int.tdiv (M.length : Int) 256) * 256) := h1
       have h2 : ¬ N.getD 2 0 % 8 > 4 := h2
       rw [hq, w64 (by omega) (by omega)] at h1
       refine .mk [6] [5] _ rfl rfl rfl rfl rfl (blk_eqs (l := dL N 0 (N.getD 2 0 % 8)) (l' := dN N (qF M)) ?_) (agg_ro hm)
       rw [dN_if, if_pos (by omega), if_neg h2]; rfl)
    | (rename_i h1 h2 h
       have h1 : ¬ IntKind.i64.wrap (N.getD 0 0 % 256 * 256) > IntKind.i64.wrap (IntKind.i64.wrap (Int.tdiv (M.length : Int) 256) * 256) := h1
       have h2 : N.getD 2 0 % 8 > 4 := h2
       rw [hq, w64 (by omega) (by omega)] at h1
       refine .mk [6] [5] _ rfl rfl rfl rfl rfl (blk_eqs (l := dL N (N.getD 0 0 % 256) 0) (l' := dN N (qF M)) ?_) (agg_ro hm)
       rw [dN_if, if_neg (by omega), if_pos h2]; rfl)
    | (rename_i h1 h2 h
       have h1 : ¬ IntKind.i64.wrap (N.getD 0 0 % 256 * 256) > IntKind.i64.wrap (IntKind.i64.wrap (Int.tdiv (M.length : Int) 256) * 256) := h1
       have h2 : ¬ N.getD 2 0 % 8 > 4 := h2
       rw [hq, w64 (by omega) (by omega)] at h1
       refine .mk [6] [5] _ rfl rfl rfl rfl rfl (blk_eqs (l := dL N (N.getD 0 0 % 256) (N.getD 2 0 % 8)) (l' := dN N (qF M)) ?_) (agg_ro hm)
       rw [dN_if, if_neg (by omega), if_neg h2]; rfl)
theorem dformedR_ok : GoodF Tryz.prog 58 dformedRS.spec := by
  refine GoodF.cases dformedR0_ok dformedR1_ok fun (c, d, _) hp => ?_
  obtain ⟨hk, hl⟩ : c.2.1 = 8 ∧ List.length d.2 ≤ 140737488355328 := hp _ rfl
  by_cases h : qF d.2 = 0
  · left
    refine ⟨fun q hq => ?_, ?_⟩
    · injection hq with hq
      subst hq
      exact ⟨hk, hl, h⟩
    · have : dM d.2 = [] := by unfold dM; rw [h]; rfl
      show (AV.agg [.own 0, .ro (.int .u8) []], _) = (AV.agg [.own 0, .ro (.int .u8) (dM d.2)], _)
      rw [this]
  · right
    refine ⟨fun q hq => ?_, rfl⟩
    injection hq with hq
    subst hq
    exact ⟨hk, hl, Nat.pos_of_ne_zero h⟩

theorem or_bits4 (b : Bool) (f o : Int) (z : Bool) (h7 : 0 ≤ f ∧ f < 2) (h8 : 0 ≤ o ∧ o < 2) : lor .i64 (lor .i64 (lor .i64 (bitI b) (shl .i64 f 1)) (shl .i64 o 2)) (8 * bitI z) = bitI b + 2 * f + 4 * o + 8 * bitI z := by
  have a1 : f = 0 ∨ f = 1 := by omega
  have a2 : o = 0 ∨ o = 1 := by omega
  rcases a1 with rfl | rfl <;> rcases a2 with rfl | rfl <;> cases b <;> cases z <;> decide +kernel
theorem imin_bit {x : Int} (h : 0 ≤ x) : imin 1 x = bitI (decide (x > 0)) := by
  rw [imin_eq]
  by_cases hx : x > 0
  · rw [decide_eq_true hx]; show min 1 x = 1; omega
  · rw [decide_eq_false hx]; show min 1 x = 0; omega
def drF (N : List Int) (q : Nat) (a : Int) : Int := pickF [bitI (decide (e2 N > 0)) + 2 * e7 N + 4 * e8 N + 8 * bitI (decide (e0 N q = 0)), e6 N, e1 N, e9 N] a
def drN (N : List Int) (q : Nat) (a : Int) : List Int := [e0 N q, e1 N, e2 N, e3 N, e4 N, e5 N, e6 N, if a = 1 ∧ ¬ e2 N = 4 then 0 else e7 N, if a = 0 then 0 else e8 N, e9 N]
def dreadS : PSpec := ⟨[gD, gi], fun (d, a, _) => (some (List.length d.2 ≤ 140737488355328), .tup [.agg [.own 0, .own 1], I1 (drF d.1 (qF d.2) a)], [.arr (.int .i64) (drN d.1 (qF d.2) a), .arr (.int .u8) (dM d.2)])⟩
theorem dread_ok : GoodF Tryz.prog 178 dreadS.spec := by
  have hT := tab_ok (fs := [(204, dfitS.spec), (236, busyS.spec)]) tree_ok
  have hP : SpecsOk Tryz.prog (tab tree [(204, dfitS.spec), (236, busyS.spec)]) := specs_cons dfit_ok (specs_cons busy_ok specs_nil)
  refine dreadS.good (fn := Tryz.f178) hT hP Tryz.func178 (by kernel_rfl) rfl fun (d : Dv) (a : Int) hp => ?_
  obtain ⟨N, M⟩ := d
  have hl : M.length ≤ 140737488355328 := hp _ rfl
  obtain ⟨r0, r1, r2, r3, r4, r5, r6, r7, r8, r9⟩ := eR N (qF M)
  have hor := or_bits4 (decide (e2 N > 0)) (e7 N) (e8 N) (decide (e0 N (qF M) = 0)) r7 r8
  rw [← imin_bit r2.1] at hor
  repeat' first
    | (refine Go.mk ?_; conv => whnf)
    | refine Need.go ?_ ?_
    | refine NilG.go (fun _ => ?_) (fun _ => ?_)
    | refine Br.dec (fun _ => ?_) (fun _ => ?_)
    | refine Br.go (fun _ => ?_) (fun _ => ?_)
    | refine draw_go hT hP mixed ?_
    | refine round_go hT hP ?_
  all_goals (try subst_vars)
  all_goals first
    | exact rfl
    | exact hl
    | exact of_decide_eq_true rfl
    | exact .mk [] [2, 3] _ rfl rfl rfl rfl rfl rfl rfl
    | skip
  · rename_i h
    have h : e0 N (qF M) = 0 := h
    refine .mk [] [2, 3] _ rfl rfl rfl rfl rfl rfl (tup_r2 ?_)
    show lor .i64 (lor .i64 (lor .i64 (imin 1 (e2 N)) (shl .i64 (e7 N) 1)) (shl .i64 (e8 N) 2)) 8 = bitI (decide (e2 N > 0)) + 2 * e7 N + 4 * e8 N + 8 * bitI (decide (e0 N (qF M) = 0))
    rw [← imin_bit r2.1]
    rw [decide_eq_true h] at hor ⊢
    exact hor
  · rename_i h
    have h : ¬ e0 N (qF M) = 0 := h
    refine .mk [] [2, 3] _ rfl rfl rfl rfl rfl rfl (tup_r2 ?_)
    show lor .i64 (lor .i64 (lor .i64 (imin 1 (e2 N)) (shl .i64 (e7 N) 1)) (shl .i64 (e8 N) 2)) 0 = bitI (decide (e2 N > 0)) + 2 * e7 N + 4 * e8 N + 8 * bitI (decide (e0 N (qF M) = 0))
    rw [← imin_bit r2.1]
    rw [decide_eq_false h] at hor ⊢
    exact hor
  · rename_i h _
    have h : (e2 N != 4) = true := h
    have h : ¬ e2 N = 4 := by simpa using h
    refine .mk [] [2, 3] _ rfl rfl rfl rfl rfl (blk2_eq (l := [e0 N (qF M), e1 N, e2 N, e3 N, e4 N, e5 N, e6 N, 0, e8 N, e9 N]) (l' := drN N (qF M) 1) ?_ rfl) rfl
    rw [drN, if_pos ⟨rfl, h⟩]; rfl
  · rename_i h _
    have h : (e2 N != 4) = false := h
    have h : e2 N = 4 := by simpa using h
    refine .mk [] [2, 3] _ rfl rfl rfl rfl rfl (blk2_eq (l := dN N (qF M)) (l' := drN N (qF M) 1) ?_ rfl) rfl
    rw [dN_eq, drN, if_neg (fun z => z.2 h)]; rfl
  · rename_i g0 g1 g2 g3
    have e : drF N (qF M) a = 0 := pick_no fun i hi => by
      have : i < 4 := hi
      omega
    refine .mk [] [2, 3] _ rfl rfl rfl rfl rfl (blk2_eq (l := dN N (qF M)) (l' := drN N (qF M) a) ?_ rfl) (tup_r2 e.symm)
    rw [dN_eq, drN, if_neg (fun z => g1 z.1), if_neg g0]

def beginF (n : List Int) (k : Int) : List Int :=
  if n.getD 2 0 > 0 ∨ k % 16 = 0 ∨ k % 16 > 4 ∨ (k % 16 > 2 ∧ n.getD 0 0 = 0) then n
  else ((((n.set 2 (k % 16)).set 3 (k / 16 % 4)).set 4 0).set 5 30).set 7 (bitI (decide (k % 16 = 4)))
theorem set_twice (n : List Int) (i : Nat) (x y : Int) : (n.set i x).set i y = n.set i y := by simp
theorem byte_ops {k : Int} (h : 0 ≤ k ∧ k < 256) : land .i64 k 15 = k % 16 ∧ land .i64 (shr .i64 k 4) 3 = k / 16 % 4 := by
  have all : ∀ n, n < 256 → land .i64 ((n : Nat) : Int) 15 = ((n : Nat) : Int) % 16 ∧ land .i64 (shr .i64 ((n : Nat) : Int) 4) 3 = ((n : Nat) : Int) / 16 % 4 := by decide +kernel
  obtain ⟨n, rfl⟩ := Int.eq_ofNat_of_zero_le h.1
  exact all n (by omega)
theorem begin_no {n : List Int} {k : Int} (h : n.getD 2 0 > 0 ∨ k % 16 = 0 ∨ k % 16 > 4 ∨ (k % 16 > 2 ∧ n.getD 0 0 = 0)) : beginF n k = n := by rw [beginF, if_pos h]
theorem begin_yes {n : List Int} {k : Int} (h : ¬ (n.getD 2 0 > 0 ∨ k % 16 = 0 ∨ k % 16 > 4 ∨ (k % 16 > 2 ∧ n.getD 0 0 = 0))) : beginF n k = ((((n.set 2 (k % 16)).set 3 (k / 16 % 4)).set 4 0).set 5 30).set 7 (bitI (decide (k % 16 = 4))) := by rw [beginF, if_neg h]
def beginS : WSpec := ⟨List Int × Int, fun x => [.c (.own 0), I1 x.2], fun x => [.arr (.int .i64) x.1], fun a b => (match a, b with | [.c (.own 0), .c (.imm (.int .i64 k))], [.arr (.int .i64) n] => some (n, k) | _, _ => none),
  fun x => (some (x.1.length = 10 ∧ 0 ≤ x.1.getD 2 0 ∧ 0 ≤ x.2 ∧ x.2 < 256), .tup [], [some (.arr (.int .i64) (beginF x.1 x.2))], [])⟩
theorem begin_ok : GoodF Tryz.prog 238 beginS.spec := by
  have hT := tab_ok (fs := []) tree_ok
  have hP : SpecsOk Tryz.prog (tab tree []) := specs_nil
  refine beginS.good (fn := Tryz.f238) hT hP Tryz.func238 (by kernel_rfl) rfl ?_ fun ((n, k) : List Int × Int) hp => ?_
  · intro a b x h
    simp only [beginS] at h
    split at h
    · injection h with h; subst h; exact ⟨rfl, rfl⟩
    · cases h
  obtain ⟨hl, h2, hk⟩ : n.length = 10 ∧ 0 ≤ n.getD 2 0 ∧ 0 ≤ k ∧ k < 256 := hp _ rfl
  obtain ⟨b1, b2⟩ := byte_ops hk
  repeat' first
    | (refine Go.mk ?_; conv => whnf)
    | refine Need.go ?_ ?_
    | refine NilG.go (fun _ => ?_) (fun _ => ?_)
    | refine Br.dec (fun _ => ?_) (fun _ => ?_)
    | refine Br.go (fun _ => ?_) (fun _ => ?_)
    | refine draw_go hT hP mixed ?_
    | refine round_go hT hP ?_
  all_goals first
    | (dsimp only at *; simp only [List.length_set, hl]; decide)
    | skip
  · rename_i g2
    have g2 : n.getD 2 0 > 0 := g2
    refine .mk [] [0] _ rfl rfl rfl rfl rfl (blk_eqs (l := n) (l' := beginF n k) ?_) rfl
    exact (begin_no (.inl g2)).symm
  · rename_i g2 g3
    have g2 : ¬ n.getD 2 0 > 0 := g2
    have g3 : land .i64 k 15 < 1 := g3; rw [b1] at g3
    refine .mk [] [0] _ rfl rfl rfl rfl rfl (blk_eqs (l := n) (l' := beginF n k) ?_) rfl
    exact (begin_no (by omega)).symm
  · rename_i g2 g3 g4
    have g2 : ¬ n.getD 2 0 > 0 := g2
    have g3 : ¬ land .i64 k 15 < 1 := g3; rw [b1] at g3
    have g4 : land .i64 k 15 > 4 := g4; rw [b1] at g4
    refine .mk [] [0] _ rfl rfl rfl rfl rfl (blk_eqs (l := n) (l' := beginF n k) ?_) rfl
    exact (begin_no (by omega)).symm
  · rename_i g2 g3 g4 g5 g6
    have g2 : ¬ n.getD 2 0 > 0 := g2
    have g3 : ¬ land .i64 k 15 < 1 := g3; rw [b1] at g3
    have g4 : ¬ land .i64 k 15 > 4 := g4; rw [b1] at g4
    have g5 : land .i64 k 15 ≥ 3 := g5; rw [b1] at g5
    have g6 : n.getD 0 0 = 0 := g6
    refine .mk [] [0] _ rfl rfl rfl rfl rfl (blk_eqs (l := n) (l' := beginF n k) ?_) rfl
    exact (begin_no (by omega)).symm
  · decide
  · rename_i g2 g3 g4 g5 g6 g7
    have g2 : ¬ n.getD 2 0 > 0 := g2
    have g3 : ¬ land .i64 k 15 < 1 := g3; rw [b1] at g3
    have g4 : ¬ land .i64 k 15 > 4 := g4; rw [b1] at g4
    have g5 : land .i64 k 15 ≥ 3 := g5; rw [b1] at g5
    have g6 : ¬ n.getD 0 0 = 0 := g6
    have g7 : land .i64 k 15 = 4 := g7; rw [b1] at g7
    refine .mk [] [0] _ rfl rfl rfl rfl rfl (blk_eqs (l := ((((((n.set 2 (land .i64 k 15)).set 3 (land .i64 (shr .i64 k 4) 3)).set 4 0).set 5 30)).set 7 0).set 7 1) (l' := beginF n k) ?_) rfl
    rw [begin_yes (by omega), b1, b2, decide_eq_true g7, set_twice]; rfl
  · rename_i g2 g3 g4 g5 g6 g7
    have g2 : ¬ n.getD 2 0 > 0 := g2
    have g3 : ¬ land .i64 k 15 < 1 := g3; rw [b1] at g3
    have g4 : ¬ land .i64 k 15 > 4 := g4; rw [b1] at g4
    have g5 : land .i64 k 15 ≥ 3 := g5; rw [b1] at g5
    have g6 : ¬ n.getD 0 0 = 0 := g6
    have g7 : ¬ land .i64 k 15 = 4 := g7; rw [b1] at g7
    refine .mk [] [0] _ rfl rfl rfl rfl rfl (blk_eqs (l := (((((n.set 2 (land .i64 k 15)).set 3 (land .i64 (shr .i64 k 4) 3)).set 4 0).set 5 30)).set 7 0) (l' := beginF n k) ?_) rfl
    rw [begin_yes (by omega), b1, b2, decide_eq_false g7]; rfl
  · decide
  · rename_i g2 g3 g4 g5 g7
    have g2 : ¬ n.getD 2 0 > 0 := g2
    have g3 : ¬ land .i64 k 15 < 1 := g3; rw [b1] at g3
    have g4 : ¬ land .i64 k 15 > 4 := g4; rw [b1] at g4
    have g5 : ¬ land .i64 k 15 ≥ 3 := g5; rw [b1] at g5
    have g7 : land .i64 k 15 = 4 := g7; rw [b1] at g7
    refine .mk [] [0] _ rfl rfl rfl rfl rfl (blk_eqs (l := ((((((n.set 2 (land .i64 k 15)).set 3 (land .i64 (shr .i64 k 4) 3)).set 4 0).set 5 30)).set 7 0).set 7 1) (l' := beginF n k) ?_) rfl
    rw [begin_yes (by omega), b1, b2, decide_eq_true g7, set_twice]; rfl
  · rename_i g2 g3 g4 g5 g7
    have g2 : ¬ n.getD 2 0 > 0 := g2
    have g3 : ¬ land .i64 k 15 < 1 := g3; rw [b1] at g3
    have g4 : ¬ land .i64 k 15 > 4 := g4; rw [b1] at g4
    have g5 : ¬ land .i64 k 15 ≥ 3 := g5; rw [b1] at g5
    have g7 : ¬ land .i64 k 15 = 4 := g7; rw [b1] at g7
    refine .mk [] [0] _ rfl rfl rfl rfl rfl (blk_eqs (l := (((((n.set 2 (land .i64 k 15)).set 3 (land .i64 (shr .i64 k 4) 3)).set 4 0).set 5 30)).set 7 0) (l' := beginF n k) ?_) rfl
    rw [begin_yes (by omega), b1, b2, decide_eq_false g7]; rfl

def commandF (n : List Int) (a k : Int) : List Int :=
  if a = 0 then beginF n k else if a = 1 then (if n.getD 2 0 = 4 then (n.set 6 k).set 7 0 else n.set 6 k) else if a = 3 then n.set 9 (k % 2) else n
def dwN (N : List Int) (q : Nat) (a k : Int) : List Int := commandF (dN N q) a (k % 256)
def dwriteS : PSpec := ⟨[gD, gi, gi], fun (d, a, k, _) => (some (List.length d.2 ≤ 140737488355328), .agg [.own 0, .own 1], [.arr (.int .i64) (dwN d.1 (qF d.2) a k), .arr (.int .u8) (dM d.2)])⟩
theorem dwrite_ok : GoodF Tryz.prog 185 dwriteS.spec := by
  have hT := tab_ok (fs := [(204, dfitS.spec), (238, beginS.spec), (94, lowM.spec)]) tree_ok
  have hP : SpecsOk Tryz.prog (tab tree [(204, dfitS.spec), (238, beginS.spec), (94, lowM.spec)]) := specs_cons dfit_ok (specs_cons begin_ok (specs_cons lowM_ok specs_nil))
  refine dwriteS.good (fn := Tryz.f185) hT hP Tryz.func185 (by kernel_rfl) rfl fun (d : Dv) (a k : Int) hp => ?_
  obtain ⟨N, M⟩ := d
  have hl : M.length ≤ 140737488355328 := hp _ rfl
  obtain ⟨r0, r1, r2, r3, r4, r5, r6, r7, r8, r9⟩ := eR N (qF M)
  repeat' first
    | (refine Go.mk ?_; conv => whnf)
    | refine Need.go ?_ ?_
    | refine NilG.go (fun _ => ?_) (fun _ => ?_)
    | refine Br.dec (fun _ => ?_) (fun _ => ?_)
    | refine Br.go (fun _ => ?_) (fun _ => ?_)
    | refine draw_go hT hP mixed ?_
    | refine round_go hT hP ?_
  all_goals (try subst_vars)
  all_goals first
    | exact rfl
    | exact hl
    | exact of_decide_eq_true rfl
    | exact .mk [] [2, 3] _ rfl rfl rfl rfl rfl rfl rfl
    | skip
  · refine ⟨rfl, r2.1, ?_, ?_⟩
    · exact (by omega : 0 ≤ k % 256)
    · exact (by omega : k % 256 < 256)
  · rename_i h _
    have h : (dN N (qF M)).getD 2 0 = 4 := h
    refine .mk [] [2, 3] _ rfl rfl rfl rfl rfl (blk2_eq (l := ((dN N (qF M)).set 6 (k % 256)).set 7 0) (l' := dwN N (qF M) 1 k) ?_ rfl) rfl
    rw [dwN, commandF, if_neg (by omega), if_pos rfl, if_pos h]
  · rename_i h _
    have h : ¬ (dN N (qF M)).getD 2 0 = 4 := h
    refine .mk [] [2, 3] _ rfl rfl rfl rfl rfl (blk2_eq (l := (dN N (qF M)).set 6 (k % 256)) (l' := dwN N (qF M) 1 k) ?_ rfl) rfl
    rw [dwN, commandF, if_neg (by omega), if_pos rfl, if_neg h]
  · refine .mk [] [2, 3] _ rfl rfl rfl rfl rfl (blk2_eq (l := (dN N (qF M)).set 9 (k % 2 ^ (1 : Int).toNat)) (l' := dwN N (qF M) 3 k) ?_ rfl) rfl
    rw [dwN, commandF, if_neg (by omega), if_neg (by omega), if_pos rfl]
    have e : k % 256 % 2 = k % 2 := by omega
    rw [e]; rfl
  · rename_i g0 g1 g2
    refine .mk [] [2, 3] _ rfl rfl rfl rfl rfl (blk2_eq (l := dN N (qF M)) (l' := dwN N (qF M) a k) ?_ rfl) rfl
    rw [dwN, commandF, if_neg g0, if_neg g1, if_neg g2]

def dirqF (N : List Int) : Bool := decide (e9 N = 1) && decide (e7 N = 1)
def dirqS : PSpec := ⟨[gD], fun (d, _) => (some (List.length d.2 ≤ 140737488355328), .cell (bv (dirqF d.1)), [])⟩
theorem dirq_ok : GoodF Tryz.prog 127 dirqS.spec := by
  have hT := tab_ok (fs := [(204, dfitS.spec)]) tree_ok
  have hP : SpecsOk Tryz.prog (tab tree [(204, dfitS.spec)]) := specs_cons dfit_ok specs_nil
  refine dirqS.good (fn := Tryz.f127) hT hP Tryz.func127 (by kernel_rfl) rfl fun (d : Dv) hp => ?_
  obtain ⟨N, M⟩ := d
  have hl : M.length ≤ 140737488355328 := hp _ rfl
  repeat' first
    | (refine Go.mk ?_; conv => whnf)
    | refine Need.go ?_ ?_
    | refine NilG.go (fun _ => ?_) (fun _ => ?_)
    | refine Br.dec (fun _ => ?_) (fun _ => ?_)
    | refine Br.go (fun _ => ?_) (fun _ => ?_)
    | refine draw_go hT hP mixed ?_
    | refine round_go hT hP ?_
  all_goals first
    | exact hl
    | exact of_decide_eq_true rfl
    | (rename_i h
       have h : e9 N = 1 := h
       refine .mk [] [] _ rfl rfl rfl rfl rfl rfl (imm_bool ?_)
       show decide (e7 N = 1) = (decide (e9 N = 1) && decide (e7 N = 1))
       rw [decide_eq_true h]; rfl)
    | (rename_i h
       have h : ¬ e9 N = 1 := h
       refine .mk [] [] _ rfl rfl rfl rfl rfl rfl (imm_bool ?_)
       show _ = (decide (e9 N = 1) && decide (e7 N = 1))
       rw [decide_eq_false h]; rfl)
def daskS : PSpec := ⟨[gC, gD], fun (c, d, _) => (some (c.2.1 = 8 ∧ List.length d.2 ≤ 140737488355328), .cell (bv (dirqF d.1)), [])⟩
theorem dask_ok : GoodF Tryz.prog 16 daskS.spec := by
  have hT := tab_ok (fs := [(58, dformedRS.spec)]) tree_ok
  have hP : SpecsOk Tryz.prog (tab tree [(58, dformedRS.spec)]) := specs_cons dformedR_ok specs_nil
  refine daskS.good (fn := Tryz.f16) hT hP Tryz.func16 (by kernel_rfl) rfl fun (c : Cv) (d : Dv) hp => ?_
  obtain ⟨cn, ck, cb, cs, cd⟩ := c
  obtain ⟨N, M⟩ := d
  obtain ⟨rfl, hl⟩ : ck = 8 ∧ M.length ≤ 140737488355328 := hp _ rfl
  obtain ⟨r0, r1, r2, r3, r4, r5, r6, r7, r8, r9⟩ := eR N (qF M)
  repeat' first
    | (refine Go.mk ?_; conv => whnf)
    | refine Need.go ?_ ?_
    | refine NilG.go (fun _ => ?_) (fun _ => ?_)
    | refine Br.dec (fun _ => ?_) (fun _ => ?_)
    | refine Br.go (fun _ => ?_) (fun _ => ?_)
    | refine draw_go hT hP mixed ?_
    | refine round_go hT hP ?_
  all_goals first
    | exact ⟨rfl, hl⟩
    | exact of_decide_eq_true rfl
    | (refine .mk [] [] _ rfl rfl rfl rfl rfl rfl (imm_bool ?_)
       show (IntKind.i64.wrap (e9 N * e7 N) == 1) = (decide (e9 N = 1) && decide (e7 N = 1))
       have a1 : e9 N = 0 ∨ e9 N = 1 := by omega
       have a2 : e7 N = 0 ∨ e7 N = 1 := by omega
       rcases a1 with a1 | a1 <;> rcases a2 with a2 | a2 <;> rw [a1, a2] <;> decide +kernel)
end Go.Proofs.YtofgbclopbmlcaaGreat

/- The functions of package bit that add, and bakelaw1.bits. -/
namespace Go.Proofs.YtofgbclopbmlcaaGreat
open Go.Fw
set_option linter.unusedVariables false
set_option linter.unusedSimpArgs false
set_option maxRecDepth 100000

def addF (a b c n : Int) : Int × Int :=
  let s := IntKind.i64.wrap (IntKind.i64.wrap (lowF a (widthF n) + lowF b (widthF n)) + land .i64 c 1)
  (lowF s (widthF n), shr .i64 s (widthF n))
end Go.Proofs.YtofgbclopbmlcaaGreat

/- Numbers as lists of digits: bakeref1's Digits2, Of2, limit. -/
namespace Go.Proofs.YtofgbclopbmlcaaGreat
open Go.Fw
set_option linter.unusedVariables false
set_option linter.unusedSimpArgs false
set_option maxRecDepth 100000

def limitF (a b c : Int) : Int := if a < b then b else if a > c then c else a
def limitS : PSpec := ⟨[gi, gi, gi], fun (a, b, c, _) => (none, I (limitF a b c), [])⟩
theorem limit_ok : GoodF Tryz.prog 80 limitS.spec := by
  have hT := tab_ok (fs := []) tree_ok
  have hP : SpecsOk Tryz.prog (tab tree []) := specs_nil
  refine limitS.good (fn := Tryz.f80) hT hP Tryz.func80 (by kernel_rfl) rfl fun (a b c : Int) _ => ?_
  repeat' first
    | (refine Go.mk ?_; conv => whnf)
    | refine Need.go ?_ ?_
    | refine Br.dec (fun _ => ?_) (fun _ => ?_)
    | refine Br.go (fun _ => ?_) (fun _ => ?_)
  · refine .mk [] [] _ rfl rfl rfl rfl rfl rfl (imm_int ?_)
    show _ = limitF a b c
    unfold limitF
    rw [if_pos (by assumption)]
  · refine .mk [] [] _ rfl rfl rfl rfl rfl rfl (imm_int ?_)
    show _ = limitF a b c
    unfold limitF
    rw [if_neg (by assumption), if_pos (by assumption)]
  · refine .mk [] [] _ rfl rfl rfl rfl rfl rfl (imm_int ?_)
    show _ = limitF a b c
    unfold limitF
    rw [if_neg (by assumption), if_neg (by assumption)]

end Go.Proofs.YtofgbclopbmlcaaGreat

/- More weakening: a nil slice taken for data; loops that count upwards. -/
namespace Go.Fw
set_option linter.unusedVariables false
set_option linter.unusedSimpArgs false

theorem CellR.nil_ro {E : Env} (t : Ty) {vs : List Value} (h : CellR E (.imm (.slice none 0 0)) vs) : CellR E (.ro t []) vs := by
  obtain ⟨e, _⟩ := h
  exact ⟨_, e, none, 0, rfl, Nat.le_refl _, fun hne => absurd rfl hne⟩

/-- cells that say the same, or a nil slice taken for data -/
def cellN (c d : Cell) : Prop := c = d ∨ (c = .imm (.slice none 0 0) ∧ ∃ t, d = .ro t [])
def cellsN : List Cell → List Cell → Prop
  | [], [] => True
  | c :: cs, d :: ds => cellN c d ∧ cellsN cs ds
  | _, _ => False
theorem cellsN_size : ∀ {cs ds : List Cell}, cellsN cs ds → ds.map Cell.size = cs.map Cell.size
  | [], [], _ => rfl
  | c :: cs, d :: ds, ⟨h1, h2⟩ => by
    simp only [List.map_cons, cellsN_size h2]
    rcases h1 with rfl | ⟨rfl, t, rfl⟩ <;> rfl
  | [], _ :: _, h => h.elim
  | _ :: _, [], h => h.elim
theorem cellsN_rel {E : Env} : ∀ {cs ds : List Cell} {vs : List Value}, cellsN cs ds → IR E cs vs → IR E ds vs
  | [], [], _, _, h => h
  | c :: cs, d :: ds, _, ⟨h1, h2⟩, ⟨r, s, e, g1, g2⟩ => by
    refine ⟨r, s, e, ?_, cellsN_rel h2 g2⟩
    rcases h1 with rfl | ⟨rfl, t, rfl⟩
    · exact g1
    · exact CellR.nil_ro t g1
  | [], _ :: _, _, h, _ => h.elim
  | _ :: _, [], _, h, _ => h.elim
theorem setAt_same {α : Type} : ∀ (l : List (Option Blk)) (b : Nat) (o : Option Blk) (j : Nat), b < l.length → (setAt l b o)[j]? = if j = b then some o else l[j]?
  | _ :: r, 0, o, j, _ => by cases j <;> simp [setAt]
  | x :: r, b + 1, o, j, h => by
    cases j with
    | zero => simp [setAt]
    | succ j =>
      have := setAt_same (α := α) r b o j (by simpa using h)
      simpa [setAt] using this
theorem setAt_len : ∀ (l : List (Option Blk)) (b : Nat) (o : Option Blk), b < l.length → (setAt l b o).length = l.length
  | _ :: r, 0, o, _ => by simp [setAt]
  | x :: r, b + 1, o, h => by simpa [setAt] using setAt_len r b o (by simpa using h)

/-- nil slices in a variable, taken for data -/
theorem Le.nilroH {m : Nat} {st : St} (b : Nat) (cs ds : List Cell) (h : st.heap[b]? = some (some (.var cs))) (hn : cellsN cs ds) : Le m st { tmps := st.tmps, heap := setAt st.heap b (some (.var ds)) } := by
  intro E0 E a hm hs hf
  have hlt : b < st.heap.length := (List.getElem?_eq_some_iff.1 h).1
  have hlook : st.look b = some (.var cs) := by unfold St.look; rw [h]
  have hb : E.H b = some (.var cs) := (hs.H b).trans hlook
  obtain ⟨hu, ⟨g, ca, el, hr, hw, hir⟩, hS⟩ := hs.ok.blk b _ hb
  have hsh : shape (.var ds) = shape (.var cs) := by simp only [shape]; rw [cellsN_size hn]
  have hwr : Writes E g ca ca el E.w :=
     ⟨hw, hw, rfl, fun _ _ => rfl, rfl, rfl, rfl, rfl⟩
  refine ⟨setE E b (.var ds) E.w, rfl, ⟨hs.defers, hs.len, fun j y hy => ?_, setE_ok hs.ok hb hr hsh hwr (cellsN_rel hn hir), fun x => ?_, fun x hx => ?_⟩, ?_⟩
  · obtain ⟨v, h1, h2⟩ := hs.tmp j y hy
    exact ⟨v, h1, h2.ext (setE_ext hs.ok hb hr hsh hwr)⟩
  · show (if x = b then some (.var ds) else E.H x) = St.look { tmps := st.tmps, heap := setAt st.heap b (some (.var ds)) } x
    unfold St.look
    rw [setAt_same (α := Nat) _ _ _ _ hlt]
    split
    · rfl
    · exact hs.H x
  · have := hs.U x hx
    simpa [setAt_len _ _ _ hlt] using this
  · exact ⟨setE_fr hs.ok hb hr hwr hf.fr, hf.ext.trans (setE_ext hs.ok hb hr hsh hwr)⟩

section
variable {P : Program} {T : Tab}
/-- a loop that counts upwards to n -/
theorem up_go (hT : TabOk P T) (hP : SpecsOk P T) {A : Type} {m : Nat} {c : Code} {st : St} {K : Cont} (n : Nat) (S : Int → A → St) (I : Nat → A → Prop) (a0 : A) (h0 : Le m st (S 0 a0)) (hI : I 0 a0)
    (h : ∀ (k : Nat) a, k ≤ n → I k a → Go (fState (S (k : Int) a) fun st => exR P T m c st fun e st' => match e with | .normal => ∃ i' a', (k < n ∧ i' = ((k + 1 : Nat) : Int) ∧ I (k + 1) a') ∧ Le m st' (S i' a') | e => K e st')) : LoopG P m c st K := by
  refine loop_rule (X := Nat × A) (fun x => S (x.1 : Int) x.2) (fun x => x.1 ≤ n ∧ I x.1 x.2) (fun x => n - x.1) (0, a0) h0 ⟨Nat.zero_le _, hI⟩ fun x hx => ?_
  refine Does.mono (does_go hT hP (h x.1 x.2 hx.1 hx.2)) fun e st' hk => ?_
  cases e with
  | normal =>
    obtain ⟨i', a', ⟨hlt, e, hi⟩, hle⟩ := hk
    subst e
    exact ⟨(x.1 + 1, a'), ⟨hlt, hi⟩, by show n - (x.1 + 1) < n - x.1; omega, hle⟩
  | _ => exact hk
end
end Go.Fw

/- Contracts of functions that only read and are handed a function, last of all. -/
namespace Go.Fw
set_option linter.unusedVariables false
set_option linter.unusedSimpArgs false

structure FSpec where
  gs : List Sig
  out : Args gs → Nat → Option Prop × AV × List Blk

def decF : (gs : List Sig) → List V1 → Option (Args gs × Nat)
  | [], l => match l with
    | [.c (.fn g [])] => some ((), g)
    | _ => none
  | g :: gs, l => match l with
    | x :: xs => match decV g x with
      | some d => (match decF gs xs with | some (r, f) => some ((d, r), f) | none => none)
      | none => none
    | [] => none
def canonF (f : Nat) : (gs : List Sig) → Args gs → List V1
  | [], _ => [.c (.fn f [])]
  | g :: gs, (a, r) => canonV g a :: canonF f gs r

def FSpec.spec (s : FSpec) : CSpec := { wr := false, run := fun args bl => match bl with
  | [] => match decF s.gs args with
    | some (xs, f) => some ((s.out xs f).1, (s.out xs f).2.1, [], (s.out xs f).2.2)
    | none => none
  | _ :: _ => none }

theorem decF_rel {E : Env} (hH : HeapOk E) (hn : ∀ b, E.H b = none) : ∀ {gs : List Sig} {xs : List V1} {ds : Args gs} {f : Nat} {vs : List Value}, decF gs xs = some (ds, f) → VsR E xs vs → VsR E (canonF f gs ds) vs
  | [], xs, ds, f, vs, h, hv => by
    unfold decF at h
    split at h
    · injection h with h
      injection h with h1 h2
      subst h2
      exact hv
    · cases h
  | g :: gs, [], ds, f, vs, h, hv => by simp [decF] at h
  | g :: gs, x :: xs, ds, f, vs, h, ⟨v, r, e, h1, h2⟩ => by
    unfold decF at h
    simp only at h
    split at h
    · rename_i d hd
      split at h
      · rename_i rs f' hr
        injection h with h
        injection h with e1 e2
        subst e1
        subst e2
        exact ⟨v, r, e, decV_rel hH hn hd h1, decF_rel hH hn hr h2⟩
      · cases h
    · cases h

theorem FSpec.good {P : Program} {T : Tab} {f : FuncId} {fn : Func} (hT : TabOk P T) (hP : SpecsOk P T) (hf : P.funcs[f]? = some fn) (hn : (fn.name == "runtime.NumGoroutine") = false) (s : FSpec) (hb : fn.body.isSome = true)
    (h : AllArgs s.gs fun xs => ∀ g : Nat, (∀ q, (s.out xs g).1 = some q → q) → Go (startR P T fn (canonF g s.gs xs) [] (s.out xs g).2.1 [] (s.out xs g).2.2)) : GoodF P f s.spec := by
  refine ⟨?_, fn, hf, hn, hb⟩
  obtain ⟨c, hc⟩ := Option.isSome_iff_exists.1 hb
  refine fn_sound hT hf hc _ fun args bl p r upd fresh hrun hp => ?_
  unfold FSpec.spec at hrun
  simp only at hrun
  split at hrun
  · split at hrun
    · rename_i xs g hxs
      simp only [Option.some.injEq, Prod.mk.injEq] at hrun
      obtain ⟨rfl, rfl, rfl, rfl⟩ := hrun
      refine ⟨_, fun E vs hok hH hv => decF_rel hok (fun b => by rw [hH]; simp) hxs hv, ?_⟩
      have := (h.out xs g hp).out
      rw [startR_eq] at this
      unfold startC at this
      rw [hc] at this
      simp only [fV1s_eq, fBlks_eq, fSt_eq] at this
      exact ex_sound hT hP c this
    · cases hrun
  · cases hrun

/-- a nil slice in a variable becomes one of one's own -/
theorem Le.nilH {m : Nat} {st : St} (b : Nat) (t : Ty) (cs ds : List Cell) (h : st.heap[b]? = some (some (.var cs))) (hn : noCs st.heap.length cs = some ds) (hsz : ds.map Cell.size = cs.map Cell.size) :
    Le m st { tmps := st.tmps, heap := setAt (setAt st.heap st.heap.length (some (.arr t []))) b (some (.var ds)) } := by
  intro E0 E a hm hs hf
  have hlt : b < st.heap.length := (List.getElem?_eq_some_iff.1 h).1
  have hU : ¬ E.U st.heap.length := fun hu => by have := hs.U _ hu; omega
  have hstep : Step E { pre := none, val := .dead, add := [.arr t []], set := [] } st.heap.length (nilE E [] st.heap.length t) := Step.nil (us := []) hs.ok rfl rfl hU
  have hs1 := hs.step (dst := none) (v := undef) hstep trivial
  have hf1 := hf.step hstep
  have hlook : st.look b = some (.var cs) := by unfold St.look; rw [h]
  have hb : E.H b = some (.var cs) := (hs.H b).trans hlook
  have hne : b ≠ st.heap.length := by omega
  obtain ⟨hu, ⟨g, ca, el, hr, hw, hir⟩, hS⟩ := hs.ok.blk b _ hb
  have hb1 : (nilE E [] st.heap.length t).H b = some (.var cs) := by simp [nilE, hne, hb]
  have hr1 : (nilE E [] st.heap.length t).ρ b = some g := by simp [nilE, hne, hr]
  have hsh : shape (.var ds) = shape (.var cs) := by simp only [shape]; rw [hsz]
  have hwr : Writes (nilE E [] st.heap.length t) g ca ca el (nilE E [] st.heap.length t).w := ⟨hw, hw, rfl, fun _ _ => rfl, rfl, rfl, rfl, rfl⟩
  have hir1 := noCs_rel hstep.ext hn hir
  have hheap : (st.act st.heap.length { pre := none, val := .dead, add := [.arr t []], set := [] }).heap = setAt st.heap st.heap.length (some (.arr t [])) := rfl
  have hlen : b < (setAt st.heap st.heap.length (some (.arr t []))).length := by
    have := (len_addAll [.arr t []] st.heap st.heap.length).1
    exact Nat.lt_of_lt_of_le hlt this
  refine ⟨setE (nilE E [] st.heap.length t) b (.var ds) (nilE E [] st.heap.length t).w, rfl, ⟨hs1.defers, hs1.len, fun j y hy => ?_, setE_ok hs1.ok hb1 hr1 hsh hwr hir1, fun x => ?_, fun x hx => ?_⟩, ?_⟩
  · obtain ⟨v, h1, h2⟩ := hs1.tmp j y hy
    exact ⟨v, h1, h2.ext (setE_ext hs1.ok hb1 hr1 hsh hwr)⟩
  · show (if x = b then some (.var ds) else (nilE E [] st.heap.length t).H x) = St.look { tmps := st.tmps, heap := setAt (setAt st.heap st.heap.length (some (.arr t []))) b (some (.var ds)) } x
    unfold St.look
    rw [setAt_same (α := Nat) _ _ _ _ hlen]
    split
    · rfl
    · exact hs1.H x
  · have := hs1.U x hx
    show x < (setAt (setAt st.heap st.heap.length (some (.arr t []))) b (some (.var ds))).length
    rw [setAt_len _ _ _ hlen]
    exact this
  · exact ⟨setE_fr hs1.ok hb1 hr1 hwr hf1.fr, hf1.ext.trans (setE_ext hs1.ok hb1 hr1 hsh hwr)⟩

/-- a contract out of what a call gives that leaves the world as it was -/
theorem PSpec.of_calls {P : Program} {f : FuncId} {fn : Func} (hf : P.funcs[f]? = some fn) (hn : (fn.name == "runtime.NumGoroutine") = false) (hb : fn.body.isSome = true) (s : PSpec) (hfr : ∀ xs, (s.out xs).2.2 = [])
    (h : ∀ (E : Env) (xs : Args s.gs) (vs : Array Value), VsR E (canonArgs s.gs xs) vs.toList → (∀ q, (s.out xs).1 = some q → q) → Calls P f vs E.w fun e w' => (∃ v, e = .returned v ∧ AVR E (s.out xs).2.1 v) ∧ w' = E.w) : GoodF P f s.spec := by
  refine ⟨?_, fn, hf, hn, hb⟩
  intro E0 vs args bl p r upd fresh hH hU hok hvs hrun hp
  unfold PSpec.spec at hrun
  simp only at hrun
  split at hrun
  · split at hrun
    · rename_i xs hxs
      simp only [Option.some.injEq, Prod.mk.injEq] at hrun
      obtain ⟨rfl, rfl, rfl, rfl⟩ := hrun
      have hv := decArgs_rel hok (fun b => by rw [hH]; simp) hxs hvs
      refine (h E0 xs vs hv hp).mono ?_
      rintro e w' ⟨⟨v, rfl, hr⟩, rfl⟩
      refine ⟨v, E0, rfl, rfl, hr, hok, fun b => ?_, fun b => ?_, Ext.refl E0, frameOf_ok⟩
      · rw [hH, hfr]; simp
      · rw [hU, hfr]; simp
    · cases hrun
  · cases hrun

end Go.Fw



/- The chip with eight lines: what the program's functions and the reference's give. -/
namespace Go.Proofs.YtofgbclopbmlcaaGreat
open Go.Fw
set_option linter.unusedVariables false
set_option linter.unusedSimpArgs false
set_option maxRecDepth 100000

def portN (N : List Int) : List Int := [N.getD 0 0 % 256, N.getD 1 0 % 256, N.getD 2 0 % 256]

def pformedS : PSpec := ⟨[gC, gD], fun (c, d, _) => (some (c.2.1 = 4), devR, [.arr (.int .i64) (portN d.1)])⟩
theorem pformed_ok : GoodF Tryz.prog 58 pformedS.spec := by
  have hT := tab_ok (fs := [(108, formS.spec)]) tree_ok
  have hP : SpecsOk Tryz.prog (tab tree [(108, formS.spec)]) := specs_cons form_ok specs_nil
  refine pformedS.good (fn := Tryz.f58) hT hP Tryz.func58 (by kernel_rfl) rfl fun (c : Cv) (d : Dv) hp => ?_
  obtain ⟨cn, ck, cb, cs, cd⟩ := c
  obtain rfl : ck = 4 := hp _ rfl
  obtain ⟨N, M⟩ := d
  repeat' first
    | (refine Go.mk ?_; conv => whnf)
    | refine Need.go ?_ ?_
    | refine NilG.go (fun _ => ?_) (fun _ => ?_)
    | refine Br.dec (fun _ => ?_) (fun _ => ?_)
    | refine Br.go (fun _ => ?_) (fun _ => ?_)
    | refine draw_go hT hP mixed ?_
    | refine round_go hT hP ?_
  · exact (by decide : ([256, 256, 256] : List Int).length ≤ 1000 ∧ ∀ m ∈ ([256, 256, 256] : List Int), 0 < m ∧ m ≤ 4611686018427387904)
  · exact .mk [] [5] _ rfl rfl rfl rfl rfl rfl rfl

def pnewS : PSpec := ⟨[], fun _ => (none, devR, [.arr (.int .i64) [255, 0, 0]])⟩
theorem pnew_ok : GoodF Tryz.prog 111 pnewS.spec := by
  have hT := tab_ok (fs := []) tree_ok
  have hP : SpecsOk Tryz.prog (tab tree []) := specs_nil
  refine pnewS.good (fn := Tryz.f111) hT hP Tryz.func111 (by kernel_rfl) rfl fun _ => ?_
  repeat' first
    | (refine Go.mk ?_; conv => whnf)
    | refine Need.go ?_ ?_
    | refine NilG.go (fun _ => ?_) (fun _ => ?_)
    | refine Br.dec (fun _ => ?_) (fun _ => ?_)
    | refine Br.go (fun _ => ?_) (fun _ => ?_)
    | refine draw_go hT hP mixed ?_
    | refine round_go hT hP ?_
  exact .mk [] [1] _ rfl rfl rfl rfl rfl rfl rfl

def pfit0S : PSpec := ⟨[gD], fun (d, _) => (none, .cell (.own 0), [.arr (.int .i64) (portN d.1)])⟩
theorem pfit0_ok : GoodF Tryz.prog 227 pfit0S.spec := by
  have hT := tab_ok (fs := [(94, lowM.spec)]) tree_ok
  have hP : SpecsOk Tryz.prog (tab tree [(94, lowM.spec)]) := specs_cons lowM_ok specs_nil
  refine pfit0S.good (fn := Tryz.f227) hT hP Tryz.func227 (by kernel_rfl) rfl fun (d : Dv) _ => ?_
  obtain ⟨N, M⟩ := d
  repeat' first
    | (refine Go.mk ?_; conv => whnf)
    | refine Need.go ?_ ?_
    | refine NilG.go (fun _ => ?_) (fun _ => ?_)
    | refine Br.dec (fun _ => ?_) (fun _ => ?_)
    | refine Br.go (fun _ => ?_) (fun _ => ?_)
    | refine draw_go hT hP mixed ?_
    | refine round_go hT hP ?_
  · exact of_decide_eq_true rfl
  refine loop_unroll 4 ?_
  repeat' first
    | (refine Go.mk ?_; conv => whnf)
    | refine Need.go ?_ ?_
    | refine NilG.go (fun _ => ?_) (fun _ => ?_)
    | refine Br.dec (fun _ => ?_) (fun _ => ?_)
    | refine Br.go (fun _ => ?_) (fun _ => ?_)
    | refine draw_go hT hP mixed ?_
    | refine round_go hT hP ?_
  all_goals first
    | exact of_decide_eq_true rfl
    | exact .mk [] [1] _ rfl rfl rfl rfl rfl rfl rfl

def pwN (N : List Int) (at_ k : Int) : List Int := [N.getD 0 0 % 256, if at_ = 0 then k % 256 else N.getD 1 0 % 256, if at_ = 1 then k % 256 else N.getD 2 0 % 256]
def pwriteS : PSpec := ⟨[gD, gi, gi], fun (d, at_, k, _) => (none, devR, [.arr (.int .i64) (pwN d.1 at_ k)])⟩
theorem pwrite_ok : GoodF Tryz.prog 181 pwriteS.spec := by
  have hT := tab_ok (fs := [(227, pfit0S.spec), (94, lowM.spec)]) tree_ok
  have hP : SpecsOk Tryz.prog (tab tree [(227, pfit0S.spec), (94, lowM.spec)]) := specs_cons pfit0_ok (specs_cons lowM_ok specs_nil)
  refine pwriteS.good (fn := Tryz.f181) hT hP Tryz.func181 (by kernel_rfl) rfl fun (d : Dv) (a k : Int) _ => ?_
  obtain ⟨N, M⟩ := d
  repeat' first
    | (refine Go.mk ?_; conv => whnf)
    | refine Need.go ?_ ?_
    | refine NilG.go (fun _ => ?_) (fun _ => ?_)
    | refine Br.dec (fun _ => ?_) (fun _ => ?_)
    | refine Br.go (fun _ => ?_) (fun _ => ?_)
    | refine draw_go hT hP mixed ?_
    | refine round_go hT hP ?_
  all_goals (try subst_vars)
  all_goals first
    | exact of_decide_eq_true rfl
    | exact .mk [] [2] _ rfl rfl rfl rfl rfl rfl rfl
    | skip
  rename_i h0 h1
  refine .mk [] [2] _ rfl rfl rfl rfl rfl ?_ rfl
  show [some (Blk.arr (.int .i64) (portN N))] = [some (Blk.arr (.int .i64) (pwN N a k))]
  simp only [pwN, if_neg h0, if_neg h1]; rfl

def bothV (N : List Int) : Int := lor .i64 (land .i64 (N.getD 1 0 % 256) (N.getD 2 0 % 256)) (landNot .i64 (N.getD 0 0 % 256) (N.getD 2 0 % 256))
def preadF (N : List Int) (a : Int) : Int := pickF [bothV N, N.getD 2 0 % 256] a
def preadS : PSpec := ⟨[gD, gi], fun (d, a, _) => (none, .tup [.agg [.own 0, .imm (.slice none 0 0)], I1 (preadF d.1 a)], [.arr (.int .i64) (portN d.1)])⟩
theorem pread_ok : GoodF Tryz.prog 174 preadS.spec := by
  have hT := tab_ok (fs := [(227, pfit0S.spec)]) tree_ok
  have hP : SpecsOk Tryz.prog (tab tree [(227, pfit0S.spec)]) := specs_cons pfit0_ok specs_nil
  refine preadS.good (fn := Tryz.f174) hT hP Tryz.func174 (by kernel_rfl) rfl fun (d : Dv) (a : Int) _ => ?_
  obtain ⟨N, M⟩ := d
  repeat' first
    | (refine Go.mk ?_; conv => whnf)
    | refine Need.go ?_ ?_
    | refine NilG.go (fun _ => ?_) (fun _ => ?_)
    | refine Br.dec (fun _ => ?_) (fun _ => ?_)
    | refine Br.go (fun _ => ?_) (fun _ => ?_)
    | refine draw_go hT hP mixed ?_
    | refine round_go hT hP ?_
  all_goals (try subst_vars)
  all_goals first
    | exact of_decide_eq_true rfl
    | exact .mk [] [2] _ rfl rfl rfl rfl rfl rfl rfl
    | skip
  rename_i h0 h1
  have e : preadF N a = 0 := pick_no fun i hi => by
    have : i < 2 := hi
    omega
  refine .mk [] [2] _ rfl rfl rfl rfl rfl rfl ?_
  show AV.tup [.agg [.own 0, .imm (.slice none 0 0)], I1 0] = AV.tup [.agg [.own 0, .imm (.slice none 0 0)], I1 (preadF N a)]
  rw [e]

end Go.Proofs.YtofgbclopbmlcaaGreat

/- The timer as plain functions: a cycle, many cycles. -/
namespace Go.Proofs.YtofgbclopbmlcaaGreat
open Go.Fw
set_option linter.unusedVariables false
set_option linter.unusedSimpArgs false

def timN (N : List Int) : List Int := [N.getD 0 0 % 65536, N.getD 1 0 % 65536, N.getD 2 0 % 8, N.getD 3 0 % 2]
/-- the bits of the control register -/
theorem ctl {c : Int} (h0 : 0 ≤ c) (h1 : c < 8) : ((land .i64 c 1 == 0) = decide (c % 2 = 0)) ∧ ((land .i64 c 2 != 0) = decide (c / 2 % 2 = 1)) ∧ ((land .i64 c 4 != 0) = decide (c ≥ 4)) ∧ (¬ c % 2 = 0 → landNot .i64 c 1 = c - 1) := by
  have : c = 0 ∨ c = 1 ∨ c = 2 ∨ c = 3 ∨ c = 4 ∨ c = 5 ∨ c = 6 ∨ c = 7 := by omega
  rcases this with rfl | rfl | rfl | rfl | rfl | rfl | rfl | rfl <;> decide +kernel
end Go.Proofs.YtofgbclopbmlcaaGreat

/- The chip that counts down: forming, cycles. -/
namespace Go.Proofs.YtofgbclopbmlcaaGreat
open Go.Fw
set_option linter.unusedVariables false
set_option linter.unusedSimpArgs false
set_option maxRecDepth 100000

theorem blk_eq {l l' : List Int} (h : l = l') : [some (Blk.arr (.int .i64) l)] = [some (Blk.arr (.int .i64) l')] := by rw [h]
abbrev tA (N : List Int) : Int := N.getD 0 0 % 65536
abbrev tB (N : List Int) : Int := N.getD 1 0 % 65536
abbrev tC (N : List Int) : Int := N.getD 2 0 % 8
abbrev tF (N : List Int) : Int := N.getD 3 0 % 2
theorem tR (N : List Int) : (0 ≤ tA N ∧ tA N < 65536) ∧ (0 ≤ tB N ∧ tB N < 65536) ∧ (0 ≤ tC N ∧ tC N < 8) ∧ (0 ≤ tF N ∧ tF N < 2) := by
  unfold tA tB tC tF; omega
theorem timN_eq (N : List Int) : timN N = [tA N, tB N, tC N, tF N] := rfl
def tformedS : PSpec := ⟨[gC, gD], fun (c, d, _) => (some (c.2.1 = 3), devR, [.arr (.int .i64) (timN d.1)])⟩
theorem tformed_ok : GoodF Tryz.prog 58 tformedS.spec := by
  have hT := tab_ok (fs := [(108, formS.spec)]) tree_ok
  have hP : SpecsOk Tryz.prog (tab tree [(108, formS.spec)]) := specs_cons form_ok specs_nil
  refine tformedS.good (fn := Tryz.f58) hT hP Tryz.func58 (by kernel_rfl) rfl fun (c : Cv) (d : Dv) hp => ?_
  obtain ⟨cn, ck, cb, cs, cd⟩ := c
  obtain rfl : ck = 3 := hp _ rfl
  obtain ⟨N, M⟩ := d
  repeat' first
    | (refine Go.mk ?_; conv => whnf)
    | refine Need.go ?_ ?_
    | refine NilG.go (fun _ => ?_) (fun _ => ?_)
    | refine Br.dec (fun _ => ?_) (fun _ => ?_)
    | refine Br.go (fun _ => ?_) (fun _ => ?_)
    | refine draw_go hT hP mixed ?_
    | refine round_go hT hP ?_
  · exact (by decide : ([65536, 65536, 8, 2] : List Int).length ≤ 1000 ∧ ∀ m ∈ ([65536, 65536, 8, 2] : List Int), 0 < m ∧ m ≤ 4611686018427387904)
  · exact .mk [] [5] _ rfl rfl rfl rfl rfl rfl rfl

def tfitS : PSpec := ⟨[gD], fun (d, _) => (none, .cell (.own 0), [.arr (.int .i64) (timN d.1)])⟩
theorem tfit_ok : GoodF Tryz.prog 202 tfitS.spec := by
  have hT := tab_ok (fs := [(94, lowM.spec)]) tree_ok
  have hP : SpecsOk Tryz.prog (tab tree [(94, lowM.spec)]) := specs_cons lowM_ok specs_nil
  refine tfitS.good (fn := Tryz.f202) hT hP Tryz.func202 (by kernel_rfl) rfl fun (d : Dv) _ => ?_
  obtain ⟨N, M⟩ := d
  repeat' first
    | (refine Go.mk ?_; conv => whnf)
    | refine Need.go ?_ ?_
    | refine NilG.go (fun _ => ?_) (fun _ => ?_)
    | refine Br.dec (fun _ => ?_) (fun _ => ?_)
    | refine Br.go (fun _ => ?_) (fun _ => ?_)
    | refine draw_go hT hP mixed ?_
    | refine round_go hT hP ?_
  all_goals first
    | exact of_decide_eq_true rfl
    | exact .mk [] [1] _ rfl rfl rfl rfl rfl rfl rfl

def tnewS : PSpec := ⟨[], fun _ => (none, devR, [.arr (.int .i64) [0, 0, 0, 0]])⟩
theorem tnew_ok : GoodF Tryz.prog 110 tnewS.spec := by
  have hT := tab_ok (fs := []) tree_ok
  have hP : SpecsOk Tryz.prog (tab tree []) := specs_nil
  refine tnewS.good (fn := Tryz.f110) hT hP Tryz.func110 (by kernel_rfl) rfl fun _ => ?_
  repeat' first
    | (refine Go.mk ?_; conv => whnf)
    | refine Need.go ?_ ?_
    | refine NilG.go (fun _ => ?_) (fun _ => ?_)
    | refine Br.dec (fun _ => ?_) (fun _ => ?_)
    | refine Br.go (fun _ => ?_) (fun _ => ?_)
    | refine draw_go hT hP mixed ?_
    | refine round_go hT hP ?_
  all_goals first
    | exact of_decide_eq_true rfl
    | exact .mk [] [1] _ rfl rfl rfl rfl rfl rfl rfl

end Go.Proofs.YtofgbclopbmlcaaGreat

/- Fields of numbers, by division: plain arithmetic. -/
namespace Go.Proofs.YtofgbclopbmlcaaGreat
open Go.Fw
set_option linter.unusedVariables false
set_option linter.unusedSimpArgs false

theorem placeF_id {f z : Nat} (h : f + z ≤ 62) : placeF (f : Int) (z : Int) = ((f : Int), (z : Int)) := by
  simp only [placeF, widthF, imax_eq, imin_eq]
  have e1 : max 0 (min (f : Int) 62) = f := by omega
  rw [e1, w64 (x := 62 - (f : Int)) (by omega) (by omega)]
  have e2 : max 0 (min (z : Int) (62 - f)) = z := by omega
  rw [e2]
theorem u64_mod (v : Int) {k : Nat} (h : k ≤ 62) : ((u64 v % 2 ^ k : Nat) : Int) = v % 2 ^ k := by
  have := lowF_mod v k (by omega) (by omega)
  rw [lowF_eq, widthF_id (by omega) (by omega)] at this
  exact this
theorem fput_bits {N V f z : Nat} (hN : N < 2 ^ 62) (hV : V < 2 ^ z) (h : f + z ≤ 62) :
    (N ^^^ (N &&& (2 ^ z - 1) * 2 ^ f)) ||| V * 2 ^ f = 2 ^ f * (2 ^ z * (N / 2 ^ (f + z)) + V) + N % 2 ^ f := by
  apply Nat.eq_of_testBit_eq
  intro i
  rw [Nat.testBit_two_pow_mul_add _ (Nat.mod_lt _ (Nat.pow_pos (by omega))), Nat.testBit_or, xor_and_testBit, Nat.testBit_mul_two_pow, Nat.testBit_mul_two_pow, Nat.testBit_two_pow_sub_one]
  by_cases h1 : i < f
  · rw [if_pos h1, Nat.testBit_mod_two_pow]
    have e : decide (f ≤ i) = false := by simp; omega
    simp [e, h1]
  · rw [if_neg h1, Nat.testBit_two_pow_mul_add _ hV]
    have e : decide (f ≤ i) = true := by simp; omega
    by_cases h2 : i - f < z
    · simp [e, h2]
    · rw [if_neg h2, Nat.testBit_div_two_pow]
      have e3 : V.testBit (i - f) = false := Nat.testBit_lt_two_pow (Nat.lt_of_lt_of_le hV (pow_le (by omega)))
      have e4 : i - f - z + (f + z) = i := by omega
      have e5 : f + z + (i - f - z) = i := by omega
      simp [e, h2, e3, e4, e5]
theorem getF_nat {n f z : Nat} (hn : n < 2 ^ 62) (h : f + z ≤ 62) : getF (n : Int) (f : Int) (z : Int) = ((n / 2 ^ f % 2 ^ z : Nat) : Int) := by
  have hl : lowF (n : Int) 62 = ((u64 (n : Int) % 2 ^ 62 : Nat) : Int) := lowF_eq n 62
  rw [u64_nat (by omega), Nat.mod_eq_of_lt hn] at hl
  unfold getF
  rw [placeF_id h, hl]
  simp only
  rw [shr_eq (by omega), lowF_eq, widthF_id (by omega) (by omega), u64_nat (Nat.lt_of_le_of_lt (Nat.div_le_self _ _) (by omega))]
  simp
theorem putF_nat {n f z : Nat} (v : Int) (hn : n < 2 ^ 62) (h : f + z ≤ 62) : putF (n : Int) (f : Int) (z : Int) v = ((2 ^ f * (2 ^ z * (n / 2 ^ (f + z)) + u64 v % 2 ^ z) + n % 2 ^ f : Nat) : Int) := by
  have hz : 2 ^ f * 2 ^ z ≤ 2 ^ 62 := by rw [← Nat.pow_add]; exact pow_le h
  have hz0 : 0 < 2 ^ z := Nat.pow_pos (by omega)
  have hf0 : 0 < 2 ^ f := Nat.pow_pos (by omega)
  have hV : u64 v % 2 ^ z < 2 ^ z := Nat.mod_lt _ hz0
  have hl : lowF (n : Int) 62 = ((u64 (n : Int) % 2 ^ 62 : Nat) : Int) := lowF_eq n 62
  rw [u64_nat (by omega), Nat.mod_eq_of_lt hn] at hl
  have hv : lowF v z = ((u64 v % 2 ^ z : Nat) : Int) := by rw [lowF_eq, widthF_id (by omega) (by omega)]; simp
  have b1 : (2 ^ z - 1) * 2 ^ f < 2 ^ 63 := by
    have : (2 ^ z - 1) * 2 ^ f ≤ 2 ^ z * 2 ^ f := Nat.mul_le_mul_right _ (by omega)
    rw [Nat.mul_comm (2 ^ z)] at this
    omega
  have b2 : u64 v % 2 ^ z * 2 ^ f < 2 ^ 63 := by
    have : u64 v % 2 ^ z * 2 ^ f ≤ 2 ^ z * 2 ^ f := Nat.mul_le_mul_right _ (by omega)
    rw [Nat.mul_comm (2 ^ z)] at this
    omega
  have key := fput_bits hn hV h
  have b3 : 2 ^ f * (2 ^ z * (n / 2 ^ (f + z)) + u64 v % 2 ^ z) + n % 2 ^ f < 2 ^ 62 := by
    rw [← key]
    refine Nat.or_lt_two_pow (Nat.xor_lt_two_pow hn (Nat.lt_of_le_of_lt Nat.and_le_left hn)) ?_
    have : u64 v % 2 ^ z * 2 ^ f < 2 ^ z * 2 ^ f := Nat.mul_lt_mul_of_pos_right hV hf0
    rw [Nat.mul_comm (2 ^ z)] at this
    omega
  rw [← key]
  unfold putF
  rw [placeF_id h]
  simp only
  rw [hl, hv, mask_eq (by omega), shl_eq b1 (by omega), shl_eq b2 (by omega)]
  have u1 : u64 (n : Int) = n := u64_nat (by omega)
  have u2 : u64 (((2 ^ z - 1) * 2 ^ f : Nat) : Int) = (2 ^ z - 1) * 2 ^ f := u64_nat (by omega)
  have u3 : u64 ((u64 v % 2 ^ z * 2 ^ f : Nat) : Int) = u64 v % 2 ^ z * 2 ^ f := u64_nat (by omega)
  rw [landNot_nat _ _ (by rw [u1]; omega), u1, u2]
  have u4 : u64 ((n ^^^ n &&& (2 ^ z - 1) * 2 ^ f : Nat) : Int) = n ^^^ (n &&& (2 ^ z - 1) * 2 ^ f) := u64_nat (by
    have : n ^^^ (n &&& (2 ^ z - 1) * 2 ^ f) < 2 ^ 62 := Nat.xor_lt_two_pow hn (Nat.lt_of_le_of_lt Nat.and_le_left hn)
    omega)
  rw [lor_nat _ _ (by rw [u3, u4, key]; omega), u3, u4]

end Go.Proofs.YtofgbclopbmlcaaGreat

/- Fields of numbers, by division. -/
namespace Go.Proofs.YtofgbclopbmlcaaGreat
open Go.Fw
set_option linter.unusedVariables false
set_option linter.unusedSimpArgs false
set_option maxRecDepth 100000

def getM : PSpec := ⟨[gi, gi, gi], fun (n, a, s, _) => (some (0 ≤ n ∧ n < 4611686018427387904 ∧ 0 ≤ a ∧ 0 ≤ s ∧ a + s ≤ 62), I (n / 2 ^ a.toNat % 2 ^ s.toNat), [])⟩
theorem getM_ok : GoodF Tryz.prog 233 getM.spec := by
  have hT := tab_ok (fs := [(260, placeS.spec), (94, lowS.spec)]) tree_ok
  have hP : SpecsOk Tryz.prog (tab tree [(260, placeS.spec), (94, lowS.spec)]) := specs_cons place_ok (specs_cons low_ok specs_nil)
  refine getM.good (fn := Tryz.f233) hT hP Tryz.func233 (by kernel_rfl) rfl fun (n a s : Int) hp => ?_
  obtain ⟨h1, h2, h3, h4, h5⟩ : 0 ≤ n ∧ n < 4611686018427387904 ∧ 0 ≤ a ∧ 0 ≤ s ∧ a + s ≤ 62 := hp _ rfl
  repeat' first
    | (refine Go.mk ?_; conv => whnf)
    | refine Need.go ?_ ?_
    | refine NilG.go (fun _ => ?_) (fun _ => ?_)
    | refine Br.dec (fun _ => ?_) (fun _ => ?_)
    | refine Br.go (fun _ => ?_) (fun _ => ?_)
    | refine draw_go hT hP mixed ?_
    | refine round_go hT hP ?_
  · exact (placeF_nn a s).1
  · refine .mk [] [] _ rfl rfl rfl rfl rfl rfl (imm_int ?_)
    show getF n a s = _
    obtain ⟨n, rfl⟩ := Int.eq_ofNat_of_zero_le h1
    obtain ⟨a, rfl⟩ := Int.eq_ofNat_of_zero_le h3
    obtain ⟨s, rfl⟩ := Int.eq_ofNat_of_zero_le h4
    rw [getF_nat (by omega) (by omega)]
    simp
def putM : PSpec := ⟨[gi, gi, gi, gi], fun (n, a, s, v, _) => (some (0 ≤ n ∧ n < 4611686018427387904 ∧ 0 ≤ a ∧ 0 ≤ s ∧ a + s ≤ 62), I (2 ^ a.toNat * (2 ^ s.toNat * (n / 2 ^ (a + s).toNat) + v % 2 ^ s.toNat) + n % 2 ^ a.toNat), [])⟩
theorem putM_ok : GoodF Tryz.prog 237 putM.spec := by
  have hT := tab_ok (fs := [(260, placeS.spec), (94, lowS.spec)]) tree_ok
  have hP : SpecsOk Tryz.prog (tab tree [(260, placeS.spec), (94, lowS.spec)]) := specs_cons place_ok (specs_cons low_ok specs_nil)
  refine putM.good (fn := Tryz.f237) hT hP Tryz.func237 (by kernel_rfl) rfl fun (n a s v : Int) hp => ?_
  obtain ⟨h1, h2, h3, h4, h5⟩ : 0 ≤ n ∧ n < 4611686018427387904 ∧ 0 ≤ a ∧ 0 ≤ s ∧ a + s ≤ 62 := hp _ rfl
  repeat' first
    | (refine Go.mk ?_; conv => whnf)
    | refine Need.go ?_ ?_
    | refine NilG.go (fun _ => ?_) (fun _ => ?_)
    | refine Br.dec (fun _ => ?_) (fun _ => ?_)
    | refine Br.go (fun _ => ?_) (fun _ => ?_)
    | refine draw_go hT hP mixed ?_
    | refine round_go hT hP ?_
  · exact (placeF_nn a s).2
  · exact (placeF_nn a s).1
  · exact (placeF_nn a s).1
  · refine .mk [] [] _ rfl rfl rfl rfl rfl rfl (imm_int ?_)
    show putF n a s v = _
    obtain ⟨n, rfl⟩ := Int.eq_ofNat_of_zero_le h1
    obtain ⟨a, rfl⟩ := Int.eq_ofNat_of_zero_le h3
    obtain ⟨s, rfl⟩ := Int.eq_ofNat_of_zero_le h4
    have e : ((a : Int) + (s : Int)).toNat = a + s := by omega
    rw [putF_nat v (by omega) (by omega), e, ← u64_mod v (by omega)]
    simp

end Go.Proofs.YtofgbclopbmlcaaGreat

/- The chip that counts down: its registers. -/
namespace Go.Proofs.YtofgbclopbmlcaaGreat
open Go.Fw
set_option linter.unusedVariables false
set_option linter.unusedSimpArgs false
set_option maxRecDepth 100000

theorem and_pow (n i : Nat) : n &&& 2 ^ i = n / 2 ^ i % 2 * 2 ^ i := by
  apply Nat.eq_of_testBit_eq
  intro j
  rw [Nat.testBit_and, Nat.testBit_two_pow]
  have hb : n.testBit i = decide (n / 2 ^ i % 2 = 1) := Nat.testBit_eq_decide_div_mod_eq
  rcases Nat.mod_two_eq_zero_or_one (n / 2 ^ i) with h | h
  · rw [h] at hb ⊢
    rw [Nat.zero_mul, Nat.zero_testBit]
    by_cases e : i = j
    · subst e; rw [hb]; simp
    · simp [e]
  · rw [h] at hb ⊢
    rw [Nat.one_mul, Nat.testBit_two_pow]
    by_cases e : i = j
    · subst e; rw [hb]; simp
    · simp [e]
theorem land_128 (k : Int) : land .i64 k 128 = k / 128 % 2 * 128 := by
  have e : u64 128 = 2 ^ 7 := by decide
  have h := and_pow (u64 k) 7
  have hb : u64 k / 2 ^ 7 % 2 ≤ 1 := by omega
  rw [land_nat _ _ (by rw [e, h]; omega), e, h]
  unfold u64
  omega

def twN (N : List Int) (a k : Int) : List Int :=
  [if a = 2 ∧ k / 128 % 2 = 1 then tB N else tA N, if a = 0 then tB N / 256 * 256 + k % 256 else if a = 1 then tB N % 256 + 256 * (k % 256) else tB N, if a = 2 then k % 8 else tC N, tF N]
def twriteS : PSpec := ⟨[gD, gi, gi], fun (d, a, k, _) => (none, devR, [.arr (.int .i64) (twN d.1 a k)])⟩
theorem twrite_ok : GoodF Tryz.prog 180 twriteS.spec := by
  have hT := tab_ok (fs := [(202, tfitS.spec), (94, lowM.spec), (237, putM.spec)]) tree_ok
  have hP : SpecsOk Tryz.prog (tab tree [(202, tfitS.spec), (94, lowM.spec), (237, putM.spec)]) := specs_cons tfit_ok (specs_cons lowM_ok (specs_cons putM_ok specs_nil))
  refine twriteS.good (fn := Tryz.f180) hT hP Tryz.func180 (by kernel_rfl) rfl fun (d : Dv) (a k : Int) _ => ?_
  obtain ⟨N, M⟩ := d
  obtain ⟨rA, rB, rC, rF⟩ := tR N
  repeat' first
    | (refine Go.mk ?_; conv => whnf)
    | refine Need.go ?_ ?_
    | refine NilG.go (fun _ => ?_) (fun _ => ?_)
    | refine Br.dec (fun _ => ?_) (fun _ => ?_)
    | refine Br.go (fun _ => ?_) (fun _ => ?_)
    | refine draw_go hT hP mixed ?_
    | refine round_go hT hP ?_
  all_goals (try subst_vars)
  all_goals first
    | exact rfl
    | exact of_decide_eq_true rfl
    | (refine ⟨?_, ?_, by decide, by decide, by decide⟩
       · exact rB.1
       · exact (by omega : tB N < 4611686018427387904))
    | skip
  · refine .mk [] [2] _ rfl rfl rfl rfl rfl (blk_eq (l := [tA N, 2 ^ (0 : Int).toNat * (2 ^ (8 : Int).toNat * (tB N / 2 ^ (0 + 8 : Int).toNat) + k % 2 ^ (8 : Int).toNat) + tB N % 2 ^ (0 : Int).toNat, tC N, tF N]) ?_) rfl
    show _ = twN N 0 k
    have e : (2 ^ (0 : Int).toNat * (2 ^ (8 : Int).toNat * (tB N / 2 ^ (0 + 8 : Int).toNat) + k % 2 ^ (8 : Int).toNat) + tB N % 2 ^ (0 : Int).toNat) = tB N / 256 * 256 + k % 256 := by
      show (1 : Int) * (256 * (tB N / 256) + k % 256) + tB N % 1 = _
      omega
    rw [e]; rfl
  · refine .mk [] [2] _ rfl rfl rfl rfl rfl (blk_eq (l := [tA N, 2 ^ (8 : Int).toNat * (2 ^ (8 : Int).toNat * (tB N / 2 ^ (8 + 8 : Int).toNat) + k % 2 ^ (8 : Int).toNat) + tB N % 2 ^ (8 : Int).toNat, tC N, tF N]) ?_) rfl
    show _ = twN N 1 k
    have e : (2 ^ (8 : Int).toNat * (2 ^ (8 : Int).toNat * (tB N / 2 ^ (8 + 8 : Int).toNat) + k % 2 ^ (8 : Int).toNat) + tB N % 2 ^ (8 : Int).toNat) = tB N % 256 + 256 * (k % 256) := by
      show (256 : Int) * (256 * (tB N / 65536) + k % 256) + tB N % 256 = _
      omega
    rw [e]; rfl
  · rename_i h _ _ _
    have h : (land .i64 k 128 != 0) = true := h
    refine .mk [] [2] _ rfl rfl rfl rfl rfl (blk_eq (l := [tB N, tB N, k % 2 ^ (3 : Int).toNat, tF N]) ?_) rfl
    show _ = twN N 2 k
    have h : k / 128 % 2 = 1 := by rw [land_128] at h; simp at h; omega
    rw [twN, if_pos ⟨rfl, h⟩]; rfl
  · rename_i h _ _ _
    have h : (land .i64 k 128 != 0) = false := h
    refine .mk [] [2] _ rfl rfl rfl rfl rfl (blk_eq (l := [tA N, tB N, k % 2 ^ (3 : Int).toNat, tF N]) ?_) rfl
    show _ = twN N 2 k
    have h : ¬ k / 128 % 2 = 1 := by rw [land_128] at h; simp at h; omega
    rw [twN, if_neg (fun e => h e.2)]; rfl
  · rename_i h0 h1 h2
    refine .mk [] [2] _ rfl rfl rfl rfl rfl (blk_eq (l := timN N) ?_) rfl
    show _ = twN N a k
    simp only [twN, timN_eq, if_neg h0, if_neg h1, if_neg h2]
    rw [if_neg (fun e => h2 e.1)]

end Go.Proofs.YtofgbclopbmlcaaGreat



/- bakelaw1.TimerActs answers true, whatever it is given. -/
namespace Go.Proofs.YtofgbclopbmlcaaGreat
open Go.Fw
set_option linter.unusedVariables false
set_option linter.unusedSimpArgs false
set_option maxRecDepth 100000

theorem tup_read {x y : Int} (h2 : x = y) : AV.tup [.agg [.own 0, .imm (.slice none 0 0)], I1 x] = AV.tup [.agg [.own 0, .imm (.slice none 0 0)], I1 y] := by rw [h2]

def trF (N : List Int) (a : Int) : Int := pickF [tA N % 256, tA N / 256, tC N, tF N] a
def trN (N : List Int) (a : Int) : List Int := [tA N, tB N, tC N, if a = 3 then 0 else tF N]
def treadS : PSpec := ⟨[gD, gi], fun (d, a, _) => (none, .tup [.agg [.own 0, .imm (.slice none 0 0)], I1 (trF d.1 a)], [.arr (.int .i64) (trN d.1 a)])⟩
theorem tread_ok : GoodF Tryz.prog 173 treadS.spec := by
  have hT := tab_ok (fs := [(202, tfitS.spec), (233, getM.spec)]) tree_ok
  have hP : SpecsOk Tryz.prog (tab tree [(202, tfitS.spec), (233, getM.spec)]) := specs_cons tfit_ok (specs_cons getM_ok specs_nil)
  refine treadS.good (fn := Tryz.f173) hT hP Tryz.func173 (by kernel_rfl) rfl fun (d : Dv) (a : Int) _ => ?_
  obtain ⟨N, M⟩ := d
  obtain ⟨rA, rB, rC, rF⟩ := tR N
  repeat' first
    | (refine Go.mk ?_; conv => whnf)
    | refine Need.go ?_ ?_
    | refine NilG.go (fun _ => ?_) (fun _ => ?_)
    | refine Br.dec (fun _ => ?_) (fun _ => ?_)
    | refine Br.go (fun _ => ?_) (fun _ => ?_)
    | refine draw_go hT hP mixed ?_
    | refine round_go hT hP ?_
  all_goals (try subst_vars)
  all_goals first
    | exact rfl
    | exact of_decide_eq_true rfl
    | (refine ⟨?_, ?_, by decide, by decide, by decide⟩
       · exact rA.1
       · exact (by omega : tA N < 4611686018427387904))
    | exact .mk [] [2] _ rfl rfl rfl rfl rfl rfl rfl
    | skip
  · refine .mk [] [2] _ rfl rfl rfl rfl rfl rfl (tup_read ?_)
    show tA N / 1 % 256 = tA N % 256
    omega
  · refine .mk [] [2] _ rfl rfl rfl rfl rfl rfl (tup_read ?_)
    show tA N / 256 % 256 = tA N / 256
    omega
  · rename_i h0 h1 h2 h3
    have e : trF N a = 0 := pick_no fun i hi => by
      have : i < 4 := hi
      omega
    refine .mk [] [2] _ rfl rfl rfl rfl rfl (blk_eq (l := timN N) ?_) (tup_read e.symm)
    show _ = trN N a
    rw [timN_eq, trN, if_neg h3]

def tirqS : PSpec := ⟨[gD], fun (d, _) => (none, .cell (bv (decide (tF d.1 = 1) && decide (tC d.1 ≥ 4))), [])⟩
theorem tirq_ok : GoodF Tryz.prog 125 tirqS.spec := by
  have hT := tab_ok (fs := [(202, tfitS.spec)]) tree_ok
  have hP : SpecsOk Tryz.prog (tab tree [(202, tfitS.spec)]) := specs_cons tfit_ok specs_nil
  refine tirqS.good (fn := Tryz.f125) hT hP Tryz.func125 (by kernel_rfl) rfl fun (d : Dv) _ => ?_
  obtain ⟨N, M⟩ := d
  obtain ⟨rA, rB, rC, rF⟩ := tR N
  obtain ⟨c1, c2, c4, c3⟩ := ctl rC.1 rC.2
  repeat' first
    | (refine Go.mk ?_; conv => whnf)
    | refine Need.go ?_ ?_
    | refine NilG.go (fun _ => ?_) (fun _ => ?_)
    | refine Br.dec (fun _ => ?_) (fun _ => ?_)
    | refine Br.go (fun _ => ?_) (fun _ => ?_)
    | refine draw_go hT hP mixed ?_
    | refine round_go hT hP ?_
  all_goals first
    | exact of_decide_eq_true rfl
    | skip
  · rename_i h
    have h : tF N = 1 := h
    refine .mk [] [] _ rfl rfl rfl rfl rfl rfl (imm_bool ?_)
    show (land .i64 (tC N) 4 != 0) = (decide (tF N = 1) && decide (tC N ≥ 4))
    rw [c4, decide_eq_true h, Bool.true_and]
  · rename_i h
    have h : ¬ tF N = 1 := h
    refine .mk [] [] _ rfl rfl rfl rfl rfl rfl (imm_bool ?_)
    show _ = (decide (tF N = 1) && decide (tC N ≥ 4))
    rw [decide_eq_false h]; rfl

def taskS : PSpec := ⟨[gC, gD], fun (c, d, _) => (some (c.2.1 = 3), .cell (bv (decide (tF d.1 = 1) && decide (tC d.1 ≥ 4))), [])⟩
theorem task_ok : GoodF Tryz.prog 16 taskS.spec := by
  have hT := tab_ok (fs := [(58, tformedS.spec)]) tree_ok
  have hP : SpecsOk Tryz.prog (tab tree [(58, tformedS.spec)]) := specs_cons tformed_ok specs_nil
  refine taskS.good (fn := Tryz.f16) hT hP Tryz.func16 (by kernel_rfl) rfl fun (c : Cv) (d : Dv) hp => ?_
  obtain ⟨cn, ck, cb, cs, cd⟩ := c
  obtain rfl : ck = 3 := hp _ rfl
  obtain ⟨N, M⟩ := d
  repeat' first
    | (refine Go.mk ?_; conv => whnf)
    | refine Need.go ?_ ?_
    | refine NilG.go (fun _ => ?_) (fun _ => ?_)
    | refine Br.dec (fun _ => ?_) (fun _ => ?_)
    | refine Br.go (fun _ => ?_) (fun _ => ?_)
    | refine draw_go hT hP mixed ?_
    | refine round_go hT hP ?_
  all_goals first
    | exact rfl
    | exact of_decide_eq_true rfl
    | skip
  · rename_i h
    have h : tF N = 1 := h
    refine .mk [] [] _ rfl rfl rfl rfl rfl rfl (imm_bool ?_)
    show decide (tC N ≥ 4) = (decide (tF N = 1) && decide (tC N ≥ 4))
    rw [decide_eq_true h, Bool.true_and]
  · rename_i h
    have h : ¬ tF N = 1 := h
    refine .mk [] [] _ rfl rfl rfl rfl rfl rfl (imm_bool ?_)
    show _ = (decide (tF N = 1) && decide (tC N ≥ 4))
    rw [decide_eq_false h]; rfl

end Go.Proofs.YtofgbclopbmlcaaGreat

/- bakelaw1.SerialActs answers true, whatever it is given. -/
namespace Go.Proofs.YtofgbclopbmlcaaGreat
open Go.Fw
set_option linter.unusedVariables false
set_option linter.unusedSimpArgs false
set_option maxRecDepth 100000

theorem ctl4 {c : Int} (h0 : 0 ≤ c) (h1 : c < 4) : ((land .i64 c 1 != 0) = decide (c % 2 = 1)) ∧ ((land .i64 c 2 != 0) = decide (c ≥ 2)) := by
  have : c = 0 ∨ c = 1 ∨ c = 2 ∨ c = 3 := by omega
  rcases this with rfl | rfl | rfl | rfl <;> decide +kernel

def swN (N : List Int) (a k : Int) : List Int :=
  [if a = 0 ∧ s1 N = 0 then k % 256 else s0 N, if a = 0 ∧ s1 N = 0 then 40 else s1 N, s2 N, s3 N, s4 N, if a = 2 then k % 4 else s5 N, s6 N, s7 N]
def swriteS : PSpec := ⟨[gD, gi, gi], fun (d, a, k, _) => (none, devR, [.arr (.int .i64) (swN d.1 a k)])⟩
theorem swN_0 {N : List Int} {k : Int} (h : s1 N = 0) : swN N 0 k = [k % 256, 40, s2 N, s3 N, s4 N, s5 N, s6 N, s7 N] := by
  rw [swN, if_pos ⟨rfl, h⟩, if_pos ⟨rfl, h⟩, if_neg (by omega)]
theorem swN_2 {N : List Int} {k : Int} : swN N 2 k = [s0 N, s1 N, s2 N, s3 N, s4 N, k % 4, s6 N, s7 N] := by
  rw [swN, if_neg (fun e => by omega), if_neg (fun e => by omega), if_pos rfl]
theorem swN_no {N : List Int} {a k : Int} (h : ¬ (a = 0 ∧ s1 N = 0)) (h2 : ¬ a = 2) : swN N a k = serN N := by
  rw [swN, if_neg h, if_neg h, if_neg h2]; rfl
theorem swrite_ok : GoodF Tryz.prog 182 swriteS.spec := by
  have hT := tab_ok (fs := [(203, sfitS.spec), (94, lowM.spec)]) tree_ok
  have hP : SpecsOk Tryz.prog (tab tree [(203, sfitS.spec), (94, lowM.spec)]) := specs_cons sfit_ok (specs_cons lowM_ok specs_nil)
  refine swriteS.good (fn := Tryz.f182) hT hP Tryz.func182 (by kernel_rfl) rfl fun (d : Dv) (a k : Int) _ => ?_
  obtain ⟨N, M⟩ := d
  repeat' first
    | (refine Go.mk ?_; conv => whnf)
    | refine Need.go ?_ ?_
    | refine NilG.go (fun _ => ?_) (fun _ => ?_)
    | refine Br.dec (fun _ => ?_) (fun _ => ?_)
    | refine Br.go (fun _ => ?_) (fun _ => ?_)
    | refine draw_go hT hP mixed ?_
    | refine round_go hT hP ?_
  all_goals first
    | exact rfl
    | exact of_decide_eq_true rfl
    | skip
  · rename_i g0 g1
    have g1 : s1 N = 0 := g1
    subst g0
    refine .mk [] [2] _ rfl rfl rfl rfl rfl (blk_eqs (l := [k % 2 ^ (8 : Int).toNat, 40, s2 N, s3 N, s4 N, s5 N, s6 N, s7 N]) (l' := swN N 0 k) ?_) rfl
    rw [swN_0 g1]; rfl
  · rename_i g0 g1 g2
    omega
  · rename_i g0 g1 g2
    have g1 : ¬ s1 N = 0 := g1
    refine .mk [] [2] _ rfl rfl rfl rfl rfl (blk_eqs (l := serN N) (l' := swN N a k) ?_) rfl
    rw [swN_no (fun e => g1 e.2) g2]
  · rename_i g0 g1
    subst g1
    refine .mk [] [2] _ rfl rfl rfl rfl rfl (blk_eqs (l := [s0 N, s1 N, s2 N, s3 N, s4 N, k % 2 ^ (2 : Int).toNat, s6 N, s7 N]) (l' := swN N 2 k) ?_) rfl
    rw [swN_2]; rfl
  · rename_i g0 g1
    refine .mk [] [2] _ rfl rfl rfl rfl rfl (blk_eqs (l := serN N) (l' := swN N a k) ?_) rfl
    rw [swN_no (fun e => g0 e.1) g1]

def sirqF (N : List Int) : Bool := (decide (s5 N % 2 = 1) && decide (s3 N = 1)) || (decide (s5 N ≥ 2) && decide (s1 N = 0))
theorem sirq1 {N : List Int} (h : s5 N % 2 = 1) (h2 : s3 N = 1) : true = sirqF N := by unfold sirqF; rw [decide_eq_true h, decide_eq_true h2]; rfl
theorem sirq2 {N : List Int} (h : ¬ (s5 N % 2 = 1 ∧ s3 N = 1)) (h2 : s5 N ≥ 2) : decide (s1 N = 0) = sirqF N := by
  unfold sirqF
  rw [← Bool.decide_and, decide_eq_false h, decide_eq_true h2]; rfl
theorem sirq3 {N : List Int} (h : ¬ (s5 N % 2 = 1 ∧ s3 N = 1)) (h2 : ¬ s5 N ≥ 2) : false = sirqF N := by
  unfold sirqF
  rw [← Bool.decide_and, decide_eq_false h, decide_eq_false h2]; rfl
def sirqS : PSpec := ⟨[gD], fun (d, _) => (none, .cell (bv (sirqF d.1)), [])⟩
theorem sirq_ok : GoodF Tryz.prog 126 sirqS.spec := by
  have hT := tab_ok (fs := [(203, sfitS.spec)]) tree_ok
  have hP : SpecsOk Tryz.prog (tab tree [(203, sfitS.spec)]) := specs_cons sfit_ok specs_nil
  refine sirqS.good (fn := Tryz.f126) hT hP Tryz.func126 (by kernel_rfl) rfl fun (d : Dv) _ => ?_
  obtain ⟨N, M⟩ := d
  obtain ⟨h0, h1, h2, h3, h4, h5, h6, h7⟩ := sR N
  obtain ⟨c1, c2⟩ := ctl4 h5.1 h5.2
  repeat' first
    | (refine Go.mk ?_; conv => whnf)
    | refine Need.go ?_ ?_
    | refine NilG.go (fun _ => ?_) (fun _ => ?_)
    | refine Br.dec (fun _ => ?_) (fun _ => ?_)
    | refine Br.go (fun _ => ?_) (fun _ => ?_)
    | refine draw_go hT hP mixed ?_
    | refine round_go hT hP ?_
  all_goals first
    | exact of_decide_eq_true rfl
    | skip
  · rename_i g q
    have g : (land .i64 (s5 N) 1 != 0) = true := g; rw [c1] at g; have g := of_decide_eq_true g
    have q : s3 N = 1 := q
    refine .mk [] [] _ rfl rfl rfl rfl rfl rfl (imm_bool ?_)
    show true = sirqF N
    exact sirq1 g q
  · rename_i g q r
    have g : (land .i64 (s5 N) 1 != 0) = true := g; rw [c1] at g; have g := of_decide_eq_true g
    have q : ¬ s3 N = 1 := q
    have r : (land .i64 (s5 N) 2 != 0) = true := r; rw [c2] at r; have r := of_decide_eq_true r
    refine .mk [] [] _ rfl rfl rfl rfl rfl rfl (imm_bool ?_)
    show decide (s1 N = 0) = sirqF N
    exact sirq2 (fun e => q e.2) r
  · rename_i g q r
    have g : (land .i64 (s5 N) 1 != 0) = true := g; rw [c1] at g; have g := of_decide_eq_true g
    have q : ¬ s3 N = 1 := q
    have r : (land .i64 (s5 N) 2 != 0) = false := r; rw [c2] at r; have r := of_decide_eq_false r
    refine .mk [] [] _ rfl rfl rfl rfl rfl rfl (imm_bool ?_)
    show false = sirqF N
    exact sirq3 (fun e => q e.2) r
  · rename_i g r
    have g : (land .i64 (s5 N) 1 != 0) = false := g; rw [c1] at g; have g := of_decide_eq_false g
    have r : (land .i64 (s5 N) 2 != 0) = true := r; rw [c2] at r; have r := of_decide_eq_true r
    refine .mk [] [] _ rfl rfl rfl rfl rfl rfl (imm_bool ?_)
    show decide (s1 N = 0) = sirqF N
    exact sirq2 (fun e => g e.1) r
  · rename_i g r
    have g : (land .i64 (s5 N) 1 != 0) = false := g; rw [c1] at g; have g := of_decide_eq_false g
    have r : (land .i64 (s5 N) 2 != 0) = false := r; rw [c2] at r; have r := of_decide_eq_false r
    refine .mk [] [] _ rfl rfl rfl rfl rfl rfl (imm_bool ?_)
    show false = sirqF N
    exact sirq3 (fun e => g e.1) r


def saskS : PSpec := ⟨[gC, gD], fun (c, d, _) => (some (c.2.1 = 5), .cell (bv (sirqF d.1)), [])⟩
theorem sask_ok : GoodF Tryz.prog 16 saskS.spec := by
  have hT := tab_ok (fs := [(58, sformedS.spec)]) tree_ok
  have hP : SpecsOk Tryz.prog (tab tree [(58, sformedS.spec)]) := specs_cons sformed_ok specs_nil
  refine saskS.good (fn := Tryz.f16) hT hP Tryz.func16 (by kernel_rfl) rfl fun (c : Cv) (d : Dv) hp => ?_
  obtain ⟨cn, ck, cb, cs, cd⟩ := c
  obtain rfl : ck = 5 := hp _ rfl
  obtain ⟨N, M⟩ := d
  obtain ⟨h0, h1, h2, h3, h4, h5, h6, h7⟩ := sR N
  repeat' first
    | (refine Go.mk ?_; conv => whnf)
    | refine Need.go ?_ ?_
    | refine NilG.go (fun _ => ?_) (fun _ => ?_)
    | refine Br.dec (fun _ => ?_) (fun _ => ?_)
    | refine Br.go (fun _ => ?_) (fun _ => ?_)
    | refine draw_go hT hP mixed ?_
    | refine round_go hT hP ?_
  all_goals first
    | exact rfl
    | exact of_decide_eq_true rfl
    | skip
  · rename_i g q
    have g : Int.tmod (s5 N) 2 = 1 := g; rw [Int.tmod_eq_emod_of_nonneg h5.1] at g
    have q : s3 N = 1 := q
    refine .mk [] [] _ rfl rfl rfl rfl rfl rfl (imm_bool ?_)
    show true = sirqF N
    exact sirq1 g q
  · rename_i g q r
    have g : Int.tmod (s5 N) 2 = 1 := g; rw [Int.tmod_eq_emod_of_nonneg h5.1] at g
    have q : ¬ s3 N = 1 := q
    have r : s5 N ≥ 2 := r
    refine .mk [] [] _ rfl rfl rfl rfl rfl rfl (imm_bool ?_)
    show decide (s1 N = 0) = sirqF N
    exact sirq2 (fun e => q e.2) r
  · rename_i g q r
    have g : Int.tmod (s5 N) 2 = 1 := g; rw [Int.tmod_eq_emod_of_nonneg h5.1] at g
    have q : ¬ s3 N = 1 := q
    have r : ¬ s5 N ≥ 2 := r
    refine .mk [] [] _ rfl rfl rfl rfl rfl rfl (imm_bool ?_)
    show false = sirqF N
    exact sirq3 (fun e => q e.2) r
  · rename_i g r
    have g : ¬ Int.tmod (s5 N) 2 = 1 := g; rw [Int.tmod_eq_emod_of_nonneg h5.1] at g
    have r : s5 N ≥ 2 := r
    refine .mk [] [] _ rfl rfl rfl rfl rfl rfl (imm_bool ?_)
    show decide (s1 N = 0) = sirqF N
    exact sirq2 (fun e => g e.1) r
  · rename_i g r
    have g : ¬ Int.tmod (s5 N) 2 = 1 := g; rw [Int.tmod_eq_emod_of_nonneg h5.1] at g
    have r : ¬ s5 N ≥ 2 := r
    refine .mk [] [] _ rfl rfl rfl rfl rfl rfl (imm_bool ?_)
    show false = sirqF N
    exact sirq3 (fun e => g e.1) r


end Go.Proofs.YtofgbclopbmlcaaGreat

/- The two voices as plain functions. -/
namespace Go.Proofs.YtofgbclopbmlcaaGreat
open Go.Fw
set_option linter.unusedVariables false
set_option linter.unusedSimpArgs false

/-- the numbers of a voice, from a place on -/
def vo (N : List Int) (i : Nat) : List Int := [N.getD i 0 % 4096, N.getD (i + 1) 0 % 16, N.getD (i + 2) 0 % 256, N.getD (i + 3) 0 % 4096, N.getD (i + 4) 0 % 2, N.getD (i + 5) 0 % 16384]
def sndN (N : List Int) : List Int := vo N 0 ++ vo N 6
inductive vOk : List Int → Prop
  | mk {p v r c f w : Int} (hp : 0 ≤ p ∧ p < 4096) (hv : 0 ≤ v ∧ v < 16) (hr : 0 ≤ r ∧ r < 256) (hc : 0 ≤ c ∧ c < 4096) (hf : 0 ≤ f ∧ f < 2) (hw : 0 ≤ w ∧ w < 16384) : vOk [p, v, r, c, f, w]
theorem vOk.len {l : List Int} (h : vOk l) : l.length = 6 := by cases h; rfl
end Go.Proofs.YtofgbclopbmlcaaGreat

/- The chip with two voices: its state, the passing of cycles. -/
namespace Go.Proofs.YtofgbclopbmlcaaGreat
open Go.Fw
set_option linter.unusedVariables false
set_option linter.unusedSimpArgs false
set_option maxRecDepth 100000

def ofitS : PSpec := ⟨[gD], fun (d, _) => (none, .cell (.own 0), [.arr (.int .i64) (sndN d.1)])⟩
set_option maxHeartbeats 4000000 in
theorem ofit_ok : GoodF Tryz.prog 225 ofitS.spec := by
  have hT := tab_ok (fs := [(94, lowM.spec)]) tree_ok
  have hP : SpecsOk Tryz.prog (tab tree [(94, lowM.spec)]) := specs_cons lowM_ok specs_nil
  refine ofitS.good (fn := Tryz.f225) hT hP Tryz.func225 (by kernel_rfl) rfl fun (d : Dv) _ => ?_
  obtain ⟨N, M⟩ := d
  repeat' first
    | (refine Go.mk ?_; conv => whnf)
    | refine Need.go ?_ ?_
    | refine NilG.go (fun _ => ?_) (fun _ => ?_)
    | refine Br.dec (fun _ => ?_) (fun _ => ?_)
    | refine Br.go (fun _ => ?_) (fun _ => ?_)
    | refine loop_unroll 7 ?_
    | refine round_go hT hP ?_
  all_goals first
    | exact of_decide_eq_true rfl
    | exact .mk [] [1] _ rfl rfl rfl rfl rfl rfl rfl

def onewS : PSpec := ⟨[], fun _ => (none, devR, [.arr (.int .i64) (List.replicate 12 0)])⟩
theorem onew_ok : GoodF Tryz.prog 114 onewS.spec := by
  have hT := tab_ok (fs := []) tree_ok
  have hP : SpecsOk Tryz.prog (tab tree []) := specs_nil
  refine onewS.good (fn := Tryz.f114) hT hP Tryz.func114 (by kernel_rfl) rfl fun _ => ?_
  repeat' first
    | (refine Go.mk ?_; conv => whnf)
    | refine Need.go ?_ ?_
    | refine NilG.go (fun _ => ?_) (fun _ => ?_)
    | refine Br.dec (fun _ => ?_) (fun _ => ?_)
    | refine Br.go (fun _ => ?_) (fun _ => ?_)
    | refine draw_go hT hP mixed ?_
    | refine round_go hT hP ?_
  all_goals first
    | exact of_decide_eq_true rfl
    | exact .mk [] [1] _ rfl rfl rfl rfl rfl rfl rfl

end Go.Proofs.YtofgbclopbmlcaaGreat



/- The chip with two voices: registers. -/
namespace Go.Proofs.YtofgbclopbmlcaaGreat
open Go.Fw
set_option linter.unusedVariables false
set_option linter.unusedSimpArgs false
set_option maxRecDepth 100000

theorem oR (N : List Int) : (0 ≤ N.getD 0 0 % 4096 ∧ N.getD 0 0 % 4096 < 4096) ∧ (0 ≤ N.getD 1 0 % 16 ∧ N.getD 1 0 % 16 < 16) ∧ (0 ≤ N.getD 4 0 % 2 ∧ N.getD 4 0 % 2 < 2) ∧ (0 ≤ N.getD 6 0 % 4096 ∧ N.getD 6 0 % 4096 < 4096) ∧ (0 ≤ N.getD 7 0 % 16 ∧ N.getD 7 0 % 16 < 16) ∧ (0 ≤ N.getD 10 0 % 2 ∧ N.getD 10 0 % 2 < 2) := by omega
def ooutF (N : List Int) : Int := N.getD 1 0 % 16 * (N.getD 4 0 % 2) + N.getD 7 0 % 16 * (N.getD 10 0 % 2)
def voiceLoS : WSpec := ⟨List Int × Int, fun x => [.c (.own 0), I1 x.2], fun x => [.arr (.int .i64) x.1], fun a b => (match a, b with | [.c (.own 0), .c (.imm (.int .i64 k))], [.arr (.int .i64) n] => some (n, k) | _, _ => none),
  fun x => (some ((0 ≤ x.2 ∧ x.2 < 4) ∧ List.length x.1 = 12), .cell (.sub 0 0 6), [some (.arr (.int .i64) x.1)], [])⟩
theorem voiceLo_ok : GoodF Tryz.prog 235 voiceLoS.spec := by
  have hT := tab_ok (fs := []) tree_ok
  have hP : SpecsOk Tryz.prog (tab tree []) := specs_nil
  refine voiceLoS.good (fn := Tryz.f235) hT hP Tryz.func235 (by kernel_rfl) rfl ?_ fun ((l, a) : List Int × Int) hq => ?_
  · intro a b x h
    simp only [voiceLoS] at h
    split at h
    · injection h with h; subst h; exact ⟨rfl, rfl⟩
    · cases h
  obtain ⟨hp, hl⟩ : (0 ≤ a ∧ a < 4) ∧ l.length = 12 := hq _ rfl
  have ha : a = 0 ∨ a = 1 ∨ a = 2 ∨ a = 3 := by omega
  rcases ha with rfl | rfl | rfl | rfl
  all_goals
    repeat' first
      | (refine Go.mk ?_; conv => whnf)
      | refine Need.go ?_ ?_
      | refine NilG.go (fun _ => ?_) (fun _ => ?_)
      | refine Br.dec (fun _ => ?_) (fun _ => ?_)
      | refine Br.go (fun _ => ?_) (fun _ => ?_)
      | refine draw_go hT hP mixed ?_
      | refine round_go hT hP ?_
    all_goals first
      | exact of_decide_eq_true rfl
      | (exfalso; rename_i h; revert h; decide)
      | (show (0 : Int) ≤ 0 ∧ (0 : Int) ≤ 6 ∧ (6 : Int) ≤ (l.length : Nat)
         rw [hl]; decide)
      | exact .mk [] [0] _ rfl rfl rfl rfl rfl rfl rfl
      | skip
def voiceHiS : WSpec := ⟨List Int × Int, fun x => [.c (.own 0), I1 x.2], fun x => [.arr (.int .i64) x.1], fun a b => (match a, b with | [.c (.own 0), .c (.imm (.int .i64 k))], [.arr (.int .i64) n] => some (n, k) | _, _ => none),
  fun x => (some ((4 ≤ x.2 ∧ x.2 < 8) ∧ List.length x.1 = 12), .cell (.sub 0 6 6), [some (.arr (.int .i64) x.1)], [])⟩
theorem voiceHi_ok : GoodF Tryz.prog 235 voiceHiS.spec := by
  have hT := tab_ok (fs := []) tree_ok
  have hP : SpecsOk Tryz.prog (tab tree []) := specs_nil
  refine voiceHiS.good (fn := Tryz.f235) hT hP Tryz.func235 (by kernel_rfl) rfl ?_ fun ((l, a) : List Int × Int) hq => ?_
  · intro a b x h
    simp only [voiceHiS] at h
    split at h
    · injection h with h; subst h; exact ⟨rfl, rfl⟩
    · cases h
  obtain ⟨hp, hl⟩ : (4 ≤ a ∧ a < 8) ∧ l.length = 12 := hq _ rfl
  have ha : a = 4 ∨ a = 5 ∨ a = 6 ∨ a = 7 := by omega
  rcases ha with rfl | rfl | rfl | rfl
  all_goals
    repeat' first
      | (refine Go.mk ?_; conv => whnf)
      | refine Need.go ?_ ?_
      | refine NilG.go (fun _ => ?_) (fun _ => ?_)
      | refine Br.dec (fun _ => ?_) (fun _ => ?_)
      | refine Br.go (fun _ => ?_) (fun _ => ?_)
      | refine draw_go hT hP mixed ?_
      | refine round_go hT hP ?_
    all_goals first
      | exact of_decide_eq_true rfl
      | (exfalso; rename_i h; revert h; decide)
      | (show (0 : Int) ≤ 6 ∧ (6 : Int) ≤ 12 ∧ (12 : Int) ≤ (l.length : Nat)
         rw [hl]; decide)
      | exact .mk [] [0] _ rfl rfl rfl rfl rfl rfl rfl
      | skip
def voiceNoS : WSpec := ⟨List Int × Int, fun x => [.c (.own 0), I1 x.2], fun x => [.arr (.int .i64) x.1], fun a b => (match a, b with | [.c (.own 0), .c (.imm (.int .i64 k))], [.arr (.int .i64) n] => some (n, k) | _, _ => none),
  fun x => (some (x.2 < 0 ∨ x.2 ≥ 8), .cell (.imm (.slice none 0 0)), [some (.arr (.int .i64) x.1)], [])⟩
theorem voiceNo_ok : GoodF Tryz.prog 235 voiceNoS.spec := by
  have hT := tab_ok (fs := []) tree_ok
  have hP : SpecsOk Tryz.prog (tab tree []) := specs_nil
  refine voiceNoS.good (fn := Tryz.f235) hT hP Tryz.func235 (by kernel_rfl) rfl ?_ fun ((l, a) : List Int × Int) hq => ?_
  · intro a b x h
    simp only [voiceNoS] at h
    split at h
    · injection h with h; subst h; exact ⟨rfl, rfl⟩
    · cases h
  have hp : a < 0 ∨ a ≥ 8 := hq _ rfl
  repeat' first
    | (refine Go.mk ?_; conv => whnf)
    | refine Need.go ?_ ?_
    | refine NilG.go (fun _ => ?_) (fun _ => ?_)
    | refine Br.dec (fun _ => ?_) (fun _ => ?_)
    | refine Br.go (fun _ => ?_) (fun _ => ?_)
    | refine draw_go hT hP mixed ?_
    | refine round_go hT hP ?_
  all_goals first
    | exact .mk [] [0] _ rfl rfl rfl rfl rfl rfl rfl
    | (exfalso; dsimp only at *; omega)
    | skip

def orF (N : List Int) (a : Int) : Int := pickF [N.getD 0 0 % 4096 % 256, N.getD 0 0 % 4096 / 256, N.getD 1 0 % 16, N.getD 2 0 % 256, N.getD 6 0 % 4096 % 256, N.getD 6 0 % 4096 / 256, N.getD 7 0 % 16, N.getD 8 0 % 256] a
theorem get_lo {n : Int} : n / 2 ^ (0 : Int).toNat % 2 ^ (8 : Int).toNat = n % 256 := by
  show n / 1 % 256 = n % 256
  rw [Int.ediv_one]
theorem get_hi {n : Int} (h : 0 ≤ n ∧ n < 4096) : n / 2 ^ (8 : Int).toNat % 2 ^ (4 : Int).toNat = n / 256 := by
  show n / 256 % 16 = n / 256
  omega
def oreadLoS : PSpec := ⟨[gD, gi], fun (d, a, _) => (some (0 ≤ a ∧ a < 4), .tup [.agg [.own 0, .imm (.slice none 0 0)], I1 (orF d.1 a)], [.arr (.int .i64) (sndN d.1)])⟩
theorem oreadLo_ok : GoodF Tryz.prog 177 oreadLoS.spec := by
  have hT := tab_ok (fs := [(225, ofitS.spec), (235, voiceLoS.spec), (233, getM.spec)]) tree_ok
  have hP : SpecsOk Tryz.prog (tab tree [(225, ofitS.spec), (235, voiceLoS.spec), (233, getM.spec)]) := specs_cons ofit_ok (specs_cons voiceLo_ok (specs_cons getM_ok specs_nil))
  refine oreadLoS.good (fn := Tryz.f177) hT hP Tryz.func177 (by kernel_rfl) rfl fun (d : Dv) (a : Int) hq => ?_
  have hp : 0 ≤ a ∧ a < 4 := hq _ rfl
  obtain ⟨N, M⟩ := d
  obtain ⟨h0, h1, h2, h3, h4, h5⟩ := oR N
  have ha : a = 0 ∨ a = 1 ∨ a = 2 ∨ a = 3 := by omega
  rcases ha with rfl | rfl | rfl | rfl
  all_goals
    repeat' first
      | (refine Go.mk ?_; conv => whnf)
      | refine Need.go ?_ ?_
      | refine NilG.go (fun _ => ?_) (fun _ => ?_)
      | refine Br.dec (fun _ => ?_) (fun _ => ?_)
      | refine Br.go (fun _ => ?_) (fun _ => ?_)
      | refine draw_go hT hP mixed ?_
      | refine round_go hT hP ?_
    all_goals first
      | exact of_decide_eq_true rfl
      | exact ⟨of_decide_eq_true rfl, rfl⟩
      | (exfalso; rename_i h; exact absurd (show (6 : Nat) = 0 from h) (by decide))
      | (show 0 ≤ N.getD 0 0 % 4096 ∧ N.getD 0 0 % 4096 < 4611686018427387904 ∧ _
         exact ⟨by omega, by omega, by decide, by decide, by decide⟩)
      | (refine .mk [] [2] _ rfl rfl rfl rfl rfl rfl (tup_reads ?_)
         first | exact get_lo | exact get_hi h0 | exact rfl)
      | skip
def oreadHiS : PSpec := ⟨[gD, gi], fun (d, a, _) => (some (4 ≤ a ∧ a < 8), .tup [.agg [.own 0, .imm (.slice none 0 0)], I1 (orF d.1 a)], [.arr (.int .i64) (sndN d.1)])⟩
theorem oreadHi_ok : GoodF Tryz.prog 177 oreadHiS.spec := by
  have hT := tab_ok (fs := [(225, ofitS.spec), (235, voiceHiS.spec), (233, getM.spec)]) tree_ok
  have hP : SpecsOk Tryz.prog (tab tree [(225, ofitS.spec), (235, voiceHiS.spec), (233, getM.spec)]) := specs_cons ofit_ok (specs_cons voiceHi_ok (specs_cons getM_ok specs_nil))
  refine oreadHiS.good (fn := Tryz.f177) hT hP Tryz.func177 (by kernel_rfl) rfl fun (d : Dv) (a : Int) hq => ?_
  have hp : 4 ≤ a ∧ a < 8 := hq _ rfl
  obtain ⟨N, M⟩ := d
  obtain ⟨h0, h1, h2, h3, h4, h5⟩ := oR N
  have ha : a = 4 ∨ a = 5 ∨ a = 6 ∨ a = 7 := by omega
  rcases ha with rfl | rfl | rfl | rfl
  all_goals
    repeat' first
      | (refine Go.mk ?_; conv => whnf)
      | refine Need.go ?_ ?_
      | refine NilG.go (fun _ => ?_) (fun _ => ?_)
      | refine Br.dec (fun _ => ?_) (fun _ => ?_)
      | refine Br.go (fun _ => ?_) (fun _ => ?_)
      | refine draw_go hT hP mixed ?_
      | refine round_go hT hP ?_
    all_goals first
      | exact of_decide_eq_true rfl
      | exact ⟨of_decide_eq_true rfl, rfl⟩
      | (exfalso; rename_i h; exact absurd (show (6 : Nat) = 0 from h) (by decide))
      | (show 0 ≤ N.getD 6 0 % 4096 ∧ N.getD 6 0 % 4096 < 4611686018427387904 ∧ _
         exact ⟨by omega, by omega, by decide, by decide, by decide⟩)
      | (refine .mk [] [2] _ rfl rfl rfl rfl rfl rfl (tup_reads ?_)
         first | exact get_lo | exact get_hi h3 | exact rfl)
      | skip
def oreadNoS : PSpec := ⟨[gD, gi], fun (d, a, _) => (some (a < 0 ∨ a ≥ 8), .tup [.agg [.own 0, .imm (.slice none 0 0)], I1 (orF d.1 a)], [.arr (.int .i64) (sndN d.1)])⟩
theorem oreadNo_ok : GoodF Tryz.prog 177 oreadNoS.spec := by
  have hT := tab_ok (fs := [(225, ofitS.spec), (235, voiceNoS.spec), (233, getM.spec)]) tree_ok
  have hP : SpecsOk Tryz.prog (tab tree [(225, ofitS.spec), (235, voiceNoS.spec), (233, getM.spec)]) := specs_cons ofit_ok (specs_cons voiceNo_ok (specs_cons getM_ok specs_nil))
  refine oreadNoS.good (fn := Tryz.f177) hT hP Tryz.func177 (by kernel_rfl) rfl fun (d : Dv) (a : Int) hq => ?_
  have hp : a < 0 ∨ a ≥ 8 := hq _ rfl
  obtain ⟨N, M⟩ := d
  obtain ⟨h0, h1, h2, h3, h4, h5⟩ := oR N
  repeat' first
    | (refine Go.mk ?_; conv => whnf)
    | refine Need.go ?_ ?_
    | refine NilG.go (fun _ => ?_) (fun _ => ?_)
    | refine Br.dec (fun _ => ?_) (fun _ => ?_)
    | refine Br.go (fun _ => ?_) (fun _ => ?_)
    | refine draw_go hT hP mixed ?_
    | refine round_go hT hP ?_
  all_goals first
    | exact hp
    | contradiction
    | (refine .mk [] [2] _ rfl rfl rfl rfl rfl rfl (tup_reads ?_)
       exact (pick_no fun i hi => by
         have : i < 8 := hi
         omega).symm)
    | skip
theorem out8 (a : Int) (h : ¬ (0 ≤ a ∧ a < 8)) : a < 0 ∨ a ≥ 8 := by omega
def oreadS : PSpec := ⟨[gD, gi], fun (d, a, _) => (none, .tup [.agg [.own 0, .imm (.slice none 0 0)], I1 (orF d.1 a)], [.arr (.int .i64) (sndN d.1)])⟩
def oread8S : PSpec := ⟨[gD, gi], fun (d, a, _) => (some (0 ≤ a ∧ a < 8), .tup [.agg [.own 0, .imm (.slice none 0 0)], I1 (orF d.1 a)], [.arr (.int .i64) (sndN d.1)])⟩
theorem oread8_ok : GoodF Tryz.prog 177 oread8S.spec := GoodF.cases oreadLo_ok oreadHi_ok fun (d, a, _) hq => by
  have hp : 0 ≤ a ∧ a < 8 := hq _ rfl
  rcases Int.lt_or_le a 4 with h | h
  · exact .inl ⟨fun q hq => by cases hq; exact ⟨hp.1, h⟩, rfl⟩
  · exact .inr ⟨fun q hq => by cases hq; exact ⟨h, hp.2⟩, rfl⟩
theorem oread_ok : GoodF Tryz.prog 177 oreadS.spec := GoodF.cases oread8_ok oreadNo_ok fun (d, a, _) _ => by
  by_cases h : 0 ≤ a ∧ a < 8
  · exact .inl ⟨fun q hq => by cases hq; exact h, rfl⟩
  · exact .inr ⟨fun q hq => by cases hq; exact out8 a h, rfl⟩

def owF (N : List Int) (a k : Int) : List Int :=
  if a = 0 then (sndN N).set 0 (N.getD 0 0 % 4096 / 256 * 256 + k % 256) else if a = 1 then (sndN N).set 0 (N.getD 0 0 % 4096 % 256 + k % 16 * 256) else if a = 2 then ((sndN N).set 1 (k % 16)).set 5 0 else if a = 3 then (sndN N).set 2 (k % 256)
  else if a = 4 then (sndN N).set 6 (N.getD 6 0 % 4096 / 256 * 256 + k % 256) else if a = 5 then (sndN N).set 6 (N.getD 6 0 % 4096 % 256 + k % 16 * 256) else if a = 6 then ((sndN N).set 7 (k % 16)).set 11 0 else if a = 7 then (sndN N).set 8 (k % 256) else sndN N
theorem put_lo {n k : Int} (h : 0 ≤ n ∧ n < 4096) : 2 ^ (0 : Int).toNat * (2 ^ (8 : Int).toNat * (n / 2 ^ ((0 : Int) + 8).toNat) + k % 2 ^ (8 : Int).toNat) + n % 2 ^ (0 : Int).toNat = n / 256 * 256 + k % 256 := by
  show 1 * (256 * (n / 256) + k % 256) + n % 1 = _
  omega
theorem put_hi {n k : Int} (h : 0 ≤ n ∧ n < 4096) : 2 ^ (8 : Int).toNat * (2 ^ (4 : Int).toNat * (n / 2 ^ ((8 : Int) + 4).toNat) + k % 2 ^ (4 : Int).toNat) + n % 2 ^ (8 : Int).toNat = n % 256 + k % 16 * 256 := by
  show 256 * (16 * (n / 4096) + k % 16) + n % 256 = _
  omega
theorem set_eq {l : List Int} {i : Nat} {x y : Int} (h : x = y) : l.set i x = l.set i y := by rw [h]
def owriteLoS : PSpec := ⟨[gD, gi, gi], fun (d, a, k, _) => (some (0 ≤ a ∧ a < 4), devR, [.arr (.int .i64) (owF d.1 a k)])⟩
theorem owriteLo_ok : GoodF Tryz.prog 184 owriteLoS.spec := by
  have hT := tab_ok (fs := [(225, ofitS.spec), (235, voiceLoS.spec), (237, putM.spec), (94, lowM.spec)]) tree_ok
  have hP : SpecsOk Tryz.prog (tab tree [(225, ofitS.spec), (235, voiceLoS.spec), (237, putM.spec), (94, lowM.spec)]) := specs_cons ofit_ok (specs_cons voiceLo_ok (specs_cons putM_ok (specs_cons lowM_ok specs_nil)))
  refine owriteLoS.good (fn := Tryz.f184) hT hP Tryz.func184 (by kernel_rfl) rfl fun (d : Dv) (a k : Int) hq => ?_
  have hp : 0 ≤ a ∧ a < 4 := hq _ rfl
  obtain ⟨N, M⟩ := d
  obtain ⟨h0, h1, h2, h3, h4, h5⟩ := oR N
  have ha : a = 0 ∨ a = 1 ∨ a = 2 ∨ a = 3 := by omega
  rcases ha with rfl | rfl | rfl | rfl
  all_goals
    repeat' first
      | (refine Go.mk ?_; conv => whnf)
      | refine Need.go ?_ ?_
      | refine NilG.go (fun _ => ?_) (fun _ => ?_)
      | refine Br.dec (fun _ => ?_) (fun _ => ?_)
      | refine Br.go (fun _ => ?_) (fun _ => ?_)
      | refine draw_go hT hP mixed ?_
      | refine round_go hT hP ?_
    all_goals first
      | exact of_decide_eq_true rfl
      | exact ⟨of_decide_eq_true rfl, rfl⟩
      | (exfalso; rename_i h; exact absurd (show (6 : Nat) = 0 from h) (by decide))
      | (show 0 ≤ N.getD 0 0 % 4096 ∧ N.getD 0 0 % 4096 < 4611686018427387904 ∧ _
         exact ⟨by omega, by omega, by decide, by decide, by decide⟩)
      | exact .mk [] [2] _ rfl rfl rfl rfl rfl rfl rfl
      | (refine .mk [] [2] _ rfl rfl rfl rfl rfl (blk_eqs ?_) rfl
         first | exact set_eq (put_lo h0) | exact set_eq (put_hi h0))
      | skip
def owriteHiS : PSpec := ⟨[gD, gi, gi], fun (d, a, k, _) => (some (4 ≤ a ∧ a < 8), devR, [.arr (.int .i64) (owF d.1 a k)])⟩
theorem owriteHi_ok : GoodF Tryz.prog 184 owriteHiS.spec := by
  have hT := tab_ok (fs := [(225, ofitS.spec), (235, voiceHiS.spec), (237, putM.spec), (94, lowM.spec)]) tree_ok
  have hP : SpecsOk Tryz.prog (tab tree [(225, ofitS.spec), (235, voiceHiS.spec), (237, putM.spec), (94, lowM.spec)]) := specs_cons ofit_ok (specs_cons voiceHi_ok (specs_cons putM_ok (specs_cons lowM_ok specs_nil)))
  refine owriteHiS.good (fn := Tryz.f184) hT hP Tryz.func184 (by kernel_rfl) rfl fun (d : Dv) (a k : Int) hq => ?_
  have hp : 4 ≤ a ∧ a < 8 := hq _ rfl
  obtain ⟨N, M⟩ := d
  obtain ⟨h0, h1, h2, h3, h4, h5⟩ := oR N
  have ha : a = 4 ∨ a = 5 ∨ a = 6 ∨ a = 7 := by omega
  rcases ha with rfl | rfl | rfl | rfl
  all_goals
    repeat' first
      | (refine Go.mk ?_; conv => whnf)
      | refine Need.go ?_ ?_
      | refine NilG.go (fun _ => ?_) (fun _ => ?_)
      | refine Br.dec (fun _ => ?_) (fun _ => ?_)
      | refine Br.go (fun _ => ?_) (fun _ => ?_)
      | refine draw_go hT hP mixed ?_
      | refine round_go hT hP ?_
    all_goals first
      | exact of_decide_eq_true rfl
      | exact ⟨of_decide_eq_true rfl, rfl⟩
      | (exfalso; rename_i h; exact absurd (show (6 : Nat) = 0 from h) (by decide))
      | (show 0 ≤ N.getD 6 0 % 4096 ∧ N.getD 6 0 % 4096 < 4611686018427387904 ∧ _
         exact ⟨by omega, by omega, by decide, by decide, by decide⟩)
      | exact .mk [] [2] _ rfl rfl rfl rfl rfl rfl rfl
      | (refine .mk [] [2] _ rfl rfl rfl rfl rfl (blk_eqs ?_) rfl
         first | exact set_eq (put_lo h3) | exact set_eq (put_hi h3))
      | skip
def owriteNoS : PSpec := ⟨[gD, gi, gi], fun (d, a, k, _) => (some (a < 0 ∨ a ≥ 8), devR, [.arr (.int .i64) (owF d.1 a k)])⟩
theorem owriteNo_ok : GoodF Tryz.prog 184 owriteNoS.spec := by
  have hT := tab_ok (fs := [(225, ofitS.spec), (235, voiceNoS.spec), (237, putM.spec), (94, lowM.spec)]) tree_ok
  have hP : SpecsOk Tryz.prog (tab tree [(225, ofitS.spec), (235, voiceNoS.spec), (237, putM.spec), (94, lowM.spec)]) := specs_cons ofit_ok (specs_cons voiceNo_ok (specs_cons putM_ok (specs_cons lowM_ok specs_nil)))
  refine owriteNoS.good (fn := Tryz.f184) hT hP Tryz.func184 (by kernel_rfl) rfl fun (d : Dv) (a k : Int) hq => ?_
  have hp : a < 0 ∨ a ≥ 8 := hq _ rfl
  obtain ⟨N, M⟩ := d
  obtain ⟨h0, h1, h2, h3, h4, h5⟩ := oR N
  repeat' first
    | (refine Go.mk ?_; conv => whnf)
    | refine Need.go ?_ ?_
    | refine NilG.go (fun _ => ?_) (fun _ => ?_)
    | refine Br.dec (fun _ => ?_) (fun _ => ?_)
    | refine Br.go (fun _ => ?_) (fun _ => ?_)
    | refine draw_go hT hP mixed ?_
    | refine round_go hT hP ?_
  all_goals first
    | exact hp
    | contradiction
    | (refine .mk [] [2] _ rfl rfl rfl rfl rfl (blk_eqs (l := sndN N) ?_) rfl
       show _ = owF N a k
       unfold owF
       rw [if_neg (by omega), if_neg (by omega), if_neg (by omega), if_neg (by omega), if_neg (by omega), if_neg (by omega), if_neg (by omega), if_neg (by omega)])
    | skip
def owriteS : PSpec := ⟨[gD, gi, gi], fun (d, a, k, _) => (none, devR, [.arr (.int .i64) (owF d.1 a k)])⟩
def owrite8S : PSpec := ⟨[gD, gi, gi], fun (d, a, k, _) => (some (0 ≤ a ∧ a < 8), devR, [.arr (.int .i64) (owF d.1 a k)])⟩
theorem owrite8_ok : GoodF Tryz.prog 184 owrite8S.spec := GoodF.cases owriteLo_ok owriteHi_ok fun (d, a, k, _) hq => by
  have hp : 0 ≤ a ∧ a < 8 := hq _ rfl
  rcases Int.lt_or_le a 4 with h | h
  · exact .inl ⟨fun q hq => by cases hq; exact ⟨hp.1, h⟩, rfl⟩
  · exact .inr ⟨fun q hq => by cases hq; exact ⟨h, hp.2⟩, rfl⟩
theorem owrite_ok : GoodF Tryz.prog 184 owriteS.spec := GoodF.cases owrite8_ok owriteNo_ok fun (d, a, k, _) _ => by
  by_cases h : 0 ≤ a ∧ a < 8
  · exact .inl ⟨fun q hq => by cases hq; exact h, rfl⟩
  · exact .inr ⟨fun q hq => by cases hq; exact out8 a h, rfl⟩

end Go.Proofs.YtofgbclopbmlcaaGreat

/- The chip with two voices, by the document. -/
namespace Go.Proofs.YtofgbclopbmlcaaGreat
open Go.Fw
set_option linter.unusedVariables false
set_option linter.unusedSimpArgs false
set_option maxRecDepth 100000

def omods : List Int := [4096, 16, 256, 4096, 2, 16384, 4096, 16, 256, 4096, 2, 16384]
theorem omods_ok : omods.length ≤ 1000 ∧ ∀ m ∈ omods, 0 < m ∧ m ≤ 4611686018427387904 := by decide
def oformedS : PSpec := ⟨[gC, gD], fun (c, d, _) => (some (c.2.1 = 7), devR, [.arr (.int .i64) (sndN d.1)])⟩
theorem oformed_ok : GoodF Tryz.prog 58 oformedS.spec := by
  have hT := tab_ok (fs := [(108, formS.spec)]) tree_ok
  have hP : SpecsOk Tryz.prog (tab tree [(108, formS.spec)]) := specs_cons form_ok specs_nil
  refine oformedS.good (fn := Tryz.f58) hT hP Tryz.func58 (by kernel_rfl) rfl fun (c : Cv) (d : Dv) hp => ?_
  obtain ⟨cn, ck, cb, cs, cd⟩ := c
  obtain rfl : ck = 7 := hp _ rfl
  obtain ⟨N, M⟩ := d
  repeat' first
    | (refine Go.mk ?_; conv => whnf)
    | refine Need.go ?_ ?_
    | refine NilG.go (fun _ => ?_) (fun _ => ?_)
    | refine Br.dec (fun _ => ?_) (fun _ => ?_)
    | refine Br.go (fun _ => ?_) (fun _ => ?_)
    | refine draw_go hT hP mixed ?_
    | refine round_go hT hP ?_
  all_goals first
    | exact rfl
    | exact omods_ok
    | exact of_decide_eq_true rfl
    | skip
  exact .mk [] [5] _ rfl rfl rfl rfl rfl rfl rfl

theorem tm {n m : Int} (h : 0 ≤ n) : Int.tmod n m = n % m := Int.tmod_eq_emod_of_nonneg h
end Go.Proofs.YtofgbclopbmlcaaGreat



/- The processor: what it asks of the bus. -/
namespace Go.Proofs.YtofgbclopbmlcaaGreat
open Go.Fw
set_option linter.unusedVariables false
set_option linter.unusedSimpArgs false
set_option maxRecDepth 100000

abbrev StepT : Ty := .pair (.int .i64) (.pair (.int .i64) (.pair (.int .i64) (.int .i64)))
abbrev CycT : Ty := .pair (.int .i64) (.pair (.int .i64) (.pair (.int .i64) (.sl StepT)))
abbrev InsT : Ty := .pair (.int .i64) (.pair .str (.pair (.int .i64) (.sl CycT)))
abbrev CpuT : Ty := .pair .str (.pair (.sl InsT) (.pair (.sl CycT) (.pair (.sl CycT) (.sl CycT))))
abbrev CoreT : Ty := .pair (.ints .i64 9) (.pair (.int .i64) (.pair (.int .i64) .bool))
abbrev gCpu : Sig := ⟨true, CpuT⟩
abbrev gB : Sig := ⟨false, .bool⟩
abbrev Stp := Int × Int × Int × Int
abbrev Cyc := Int × Int × Int × List Stp
abbrev Ins := Int × ByteArray × Int × List Cyc
abbrev Cpu := ByteArray × List Ins × List Cyc × List Cyc × List Cyc
abbrev Kor := List Int × Int × Int × Bool

theorem w64e (x : Int) : IntKind.i64.wrap x = (x + 9223372036854775808) % 18446744073709551616 - 9223372036854775808 := by
  rw [IntKind.wrap_i64]
theorem up_i {k : Nat} (h : k ≤ 4611686018427387904) : IntKind.i64.wrap ((k : Int) + 1) = ((k + 1 : Nat) : Int) := by
  rw [w64 (by omega) (by omega)]; omega
def wideB (r : Int) : Bool := decide (r = 7 ∨ r = 8)
def narrowB (r : Int) : Bool := decide (0 ≤ r ∧ r ≤ 6)
def wideS : PSpec := ⟨[gi], fun (r, _) => (none, .cell (bv (wideB r)), [])⟩
def narrowS : PSpec := ⟨[gi], fun (r, _) => (none, .cell (bv (narrowB r)), [])⟩
theorem tWide_ok : GoodF Tryz.prog 250 wideS.spec := by
  have hT := tab_ok (fs := []) tree_ok
  have hP : SpecsOk Tryz.prog (tab tree []) := specs_nil
  refine wideS.good (fn := Tryz.f250) hT hP Tryz.func250 (by kernel_rfl) rfl fun (r : Int) _ => ?_
  repeat' first
    | (refine Go.mk ?_; conv => whnf)
    | refine Need.go ?_ ?_
    | refine NilG.go (fun _ => ?_) (fun _ => ?_)
    | refine Br.dec (fun _ => ?_) (fun _ => ?_)
    | refine Br.go (fun _ => ?_) (fun _ => ?_)
    | refine draw_go hT hP mixed ?_
    | refine round_go hT hP ?_
  all_goals
    refine .mk [] [] _ rfl rfl rfl rfl rfl rfl (imm_bool ?_)
    show _ = wideB r
    simp_all [wideB] <;> first | rfl | omega
theorem rWide_ok : GoodF Tryz.prog 140 wideS.spec := by
  have hT := tab_ok (fs := []) tree_ok
  have hP : SpecsOk Tryz.prog (tab tree []) := specs_nil
  refine wideS.good (fn := Tryz.f140) hT hP Tryz.func140 (by kernel_rfl) rfl fun (r : Int) _ => ?_
  repeat' first
    | (refine Go.mk ?_; conv => whnf)
    | refine Need.go ?_ ?_
    | refine NilG.go (fun _ => ?_) (fun _ => ?_)
    | refine Br.dec (fun _ => ?_) (fun _ => ?_)
    | refine Br.go (fun _ => ?_) (fun _ => ?_)
    | refine draw_go hT hP mixed ?_
    | refine round_go hT hP ?_
  all_goals
    refine .mk [] [] _ rfl rfl rfl rfl rfl rfl (imm_bool ?_)
    show _ = wideB r
    simp_all [wideB] <;> first | rfl | omega
theorem rNarrow_ok : GoodF Tryz.prog 139 narrowS.spec := by
  have hT := tab_ok (fs := []) tree_ok
  have hP : SpecsOk Tryz.prog (tab tree []) := specs_nil
  refine narrowS.good (fn := Tryz.f139) hT hP Tryz.func139 (by kernel_rfl) rfl fun (r : Int) _ => ?_
  repeat' first
    | (refine Go.mk ?_; conv => whnf)
    | refine Need.go ?_ ?_
    | refine NilG.go (fun _ => ?_) (fun _ => ?_)
    | refine Br.dec (fun _ => ?_) (fun _ => ?_)
    | refine Br.go (fun _ => ?_) (fun _ => ?_)
    | refine draw_go hT hP mixed ?_
    | refine round_go hT hP ?_
  all_goals
    refine .mk [] [] _ rfl rfl rfl rfl rfl rfl (imm_bool ?_)
    show _ = narrowB r
    simp_all [narrowB] <;> first | rfl | omega

-- places

-- the cycles of an instruction

-- the next cycle

-- what begins between two instructions

theorem fin256 (p : Int → Prop) [DecidablePred p] (h : ∀ n : Fin 256, p (n.val : Int)) (x : Int) (h1 : 0 ≤ x) (h2 : x < 256) : p x := by
  have := h ⟨x.toNat, by omega⟩
  have e : ((x.toNat : Nat) : Int) = x := by omega
  simpa [e] using this
end Go.Proofs.YtofgbclopbmlcaaGreat

/- Names: what counts as one. -/
namespace Go.Proofs.YtofgbclopbmlcaaGreat
open Go.Fw
set_option linter.unusedVariables false
set_option linter.unusedSimpArgs false
set_option linter.constructorNameAsVariable false
set_option maxRecDepth 100000

abbrev gStr : Sig := ⟨false, .str⟩
def letB (c : Int) : Bool := decide ((97 ≤ c ∧ c ≤ 122) ∨ (48 ≤ c ∧ c ≤ 57) ∨ c = 45)
def nameB (l : List Int) : Bool := decide (l.length ≠ 0 ∧ l.length ≤ 20 ∧ 97 ≤ l.getD 0 0 ∧ l.getD 0 0 ≤ 122) && l.all letB
theorem bytes_len (s : ByteArray) : (bytesOf s).length = s.size := by
  unfold bytesOf
  rw [List.length_map, Array.length_toList]; rfl
theorem byte_at (s : ByteArray) (i : Nat) : byteAt s i = (bytesOf s).getD i 0 := by
  unfold byteAt bytesOf
  rw [List.getD_eq_getElem?_getD, List.getD_eq_getElem?_getD, List.getElem?_map]
  cases s.data.toList[i]? <;> rfl
theorem bytes_in (s : ByteArray) : ∀ c ∈ bytesOf s, 0 ≤ c ∧ c < 256 := by
  intro c hc
  unfold bytesOf at hc
  obtain ⟨b, _, rfl⟩ := List.mem_map.1 hc
  have := b.toNat_lt
  omega
theorem strEq_nil {s : ByteArray} : strEq s ⟨#[]⟩ = decide ((bytesOf s).length = 0) := by
  unfold strEq bytesOf
  rw [ByteArray.toList_eq, ByteArray.toList_eq, List.length_map]
  cases s.data.toList with
  | nil => rfl
  | cons a r => rfl
theorem name_no {l : List Int} (h : l.length = 0 ∨ l.length > 20 ∨ l.getD 0 0 < 97 ∨ l.getD 0 0 > 122 ∨ l.all letB = false) : nameB l = false := by
  unfold nameB
  by_cases h2 : l.all letB = false
  · rw [h2, Bool.and_false]
  · rw [decide_eq_false (by rcases h with h | h | h | h | h <;> first | omega | exact absurd h h2), Bool.false_and]
theorem all_take {l : List Int} {k : Nat} (h : k < l.length) (h1 : (l.take k).all letB = true) (h2 : letB (l.getD k 0) = true) : (l.take (k + 1)).all letB = true := by
  rw [List.getD_eq_getElem?_getD, List.getElem?_eq_getElem h] at h2
  rw [List.take_add_one, List.all_append, h1, List.getElem?_eq_getElem h]
  simpa using h2
theorem all_no {l : List Int} {k : Nat} (h : k < l.length) (h2 : letB (l.getD k 0) = false) : l.all letB = false := by
  rw [List.getD_eq_getElem?_getD, List.getElem?_eq_getElem h] at h2
  rw [← Bool.not_eq_true]
  intro e
  have := List.all_eq_true.1 e _ (List.getElem_mem h)
  have h2 : letB l[k] = false := h2
  rw [h2] at this
  cases this
def nameS : PSpec := ⟨[gStr], fun (s, _) => (none, .cell (bv (nameB (bytesOf s))), [])⟩
theorem tName_ok : GoodF Tryz.prog 100 nameS.spec := by
  have hT := tab_ok (fs := []) tree_ok
  have hP : SpecsOk Tryz.prog (tab tree []) := specs_nil
  refine nameS.good (fn := Tryz.f100) hT hP Tryz.func100 (by kernel_rfl) rfl fun (s : ByteArray) _ => ?_
  repeat' first
    | (refine Go.mk ?_; conv => whnf)
    | refine Need.go ?_ ?_
    | refine NilG.go (fun _ => ?_) (fun _ => ?_)
    | refine Br.dec (fun _ => ?_) (fun _ => ?_)
    | refine Br.go (fun _ => ?_) (fun _ => ?_)
    | refine draw_go hT hP mixed ?_
    | refine round_go hT hP ?_
  all_goals first
    | exact of_decide_eq_true rfl
    | skip
  all_goals (have hL := bytes_len s)
  all_goals (simp only [strEq_nil, byte_at] at *)
  all_goals (have h0 : Int.toNat 0 = 0 := rfl)
  all_goals (try simp only [h0] at *)
  all_goals first
    | (rename_i h
       have h := of_decide_eq_true h
       exact .mk [] [] _ rfl rfl rfl rfl rfl rfl (imm_bool (name_no (.inl h)).symm))
    | (have h : (s.size : Int) > 20 := by assumption
       refine .mk [] [] _ rfl rfl rfl rfl rfl rfl (imm_bool (name_no (.inr (.inl ?_))).symm)
       rw [hL]
       omega)
    | (have h1 : decide ((bytesOf s).length = 0) = false := by assumption
       have h1 := of_decide_eq_false h1
       show 0 ≤ (0 : Int) ∧ (0 : Int) < (s.size : Int)
       omega)
    | (rename_i h
       exact .mk [] [] _ rfl rfl rfl rfl rfl rfl (imm_bool (name_no (.inr (.inr (.inl h)))).symm))
    | (rename_i h
       exact .mk [] [] _ rfl rfl rfl rfl rfl rfl (imm_bool (name_no (.inr (.inr (.inr (.inl h))))).symm))
    | skip
  have g1 : decide ((bytesOf s).length = 0) = false := by assumption
  have g1 := of_decide_eq_false g1
  have g2 : ¬ (s.size : Int) > 20 := by assumption
  have g3 : ¬ (bytesOf s).getD 0 0 < 97 := by assumption
  have g4 : ¬ (bytesOf s).getD 0 0 > 122 := by assumption
  have hF : nameB (bytesOf s) = (bytesOf s).all letB := by
    unfold nameB
    rw [decide_eq_true ⟨g1, by omega, by omega, by omega⟩, Bool.true_and]
  refine up_go hT hP (A := Unit) (bytesOf s).length (fun i _ => St.mk [.dead, .dead, .dead, .dead, .dead, .dead, .dead, .dead, .dead, .dead, .dead, .dead, .dead, .dead, .dead, .dead, .dead, .dead, .dead, .dead, .dead, .dead, .dead, .cell (.ro (.int .u8) (bytesOf s)), I ((bytesOf s).length : Int), I i, .dead, .dead, .dead, .dead, .dead, .dead, .dead, .dead, .dead, .dead, .dead, .dead, .dead, .dead, .dead, .dead, .dead, .dead, .dead, .dead, .dead, .dead, .dead] [])
    (fun k _ => ((bytesOf s).take k).all letB = true) () (Le.mk [] [] rfl rfl rfl ?_) (by simp) fun k _ hk hi => ?_
  · repeat' first | exact trivial | exact ⟨rfl, rfl⟩ | refine And.intro ?_ ?_
  repeat' first
    | (refine Go.mk ?_; conv => whnf)
    | refine Need.go ?_ ?_
    | refine NilG.go (fun _ => ?_) (fun _ => ?_)
    | refine Br.dec (fun _ => ?_) (fun _ => ?_)
    | refine Br.go (fun _ => ?_) (fun _ => ?_)
    | refine draw_go hT hP mixed ?_
    | refine round_go hT hP ?_
  all_goals
    have ec : List.getD (α := Den (.int .u8)) (bytesOf s) ((k : Int)).toNat (dflt (.int .u8)) = (bytesOf s).getD k 0 := rfl
    try simp only [ec] at *
    clear ec
  all_goals clear hT hP
  all_goals
    generalize hc : (bytesOf s).getD k 0 = c at *
  all_goals (try simp only [cond_false, Bool.not_eq_true', Bool.not_eq_false', beq_iff_eq, beq_eq_false_iff_ne] at *)
  have hlen : (bytesOf s).length ≤ 20 := by omega
  all_goals first
    | exact of_decide_eq_true rfl
    | (show 0 ≤ (k : Int) ∧ (k : Int) < ((bytesOf s).length : Int)
       omega)
    | (have hb : letB c = false := decide_eq_false (by omega)
       refine .mk [] [] _ rfl rfl rfl rfl rfl rfl (imm_bool ?_)
       rw [hF, all_no (k := k) (by omega) (by rw [hc]; exact hb)])
    | (have hb : letB c = true := decide_eq_true (by omega)
       apply Exists.intro
       apply Exists.intro ()
       refine And.intro (And.intro ?lt (And.intro ?ei ?inv)) (Le.mk [] [] rfl rfl ?hh ?ht)
       case hh => exact rfl
       case ht => repeat' first | exact trivial | exact ⟨rfl, rfl⟩ | refine And.intro ?_ ?_
       case lt => omega
       case ei => exact up_i (by omega)
       case inv => exact all_take (by omega) hi (by rw [hc]; exact hb))
    | (refine .mk [] [] _ rfl rfl rfl rfl rfl rfl (imm_bool ?_)
       rw [hF]
       rw [List.take_of_length_le (by omega)] at hi
       exact hi.symm)
    | skip
  all_goals trace_state

end Go.Proofs.YtofgbclopbmlcaaGreat

/- Where a byte is in a text; what counts as a name, for the reference. -/
namespace Go.Proofs.YtofgbclopbmlcaaGreat
open Go.Fw
set_option linter.unusedVariables false
set_option linter.unusedSimpArgs false
set_option linter.constructorNameAsVariable false
set_option maxRecDepth 100000

abbrev gu8 : Sig := ⟨false, .int .u8⟩
set_option maxHeartbeats 1000000 in
theorem idxb_run (s : ByteArray) (c : Int) (w : World) :
    Calls Tryz.prog 118 #[.string s, .int .u8 c] w fun e w' => e = .returned (.int .i64 (Lib.indexByte s.data.toList c.toNat.toUInt8)) ∧ w' = w := by
  have mixed : Tryz.prog.follows .mixedOrders = true := mixed
  go_enter Tryz.func118, Tryz.ntmps118
  go_wp2
  rw [run_callFunc_extern Tryz.func200 (by kernel_rfl) (by kernel_rfl) (by kernel_rfl) (e := Extern.BytealgIndexByte.indexByte) (by kernel_rfl), Lib.run_indexByteString]
  simp only [Result.andThen]
  rw [Oper.upon_value]
  go_wp2
  go_ret
  exact ⟨rfl, rfl⟩
def idxbS : PSpec := ⟨[gStr, gu8], fun (s, c, _) => (none, I (Lib.indexByte s.data.toList (Int.toNat c).toUInt8), [])⟩
theorem idxb_ok : GoodF Tryz.prog 118 idxbS.spec := by
  refine PSpec.of_calls Tryz.func118 (by kernel_rfl) rfl idxbS (fun _ => rfl) fun E (s, c, _) vs hv _ => ?_
  obtain ⟨v1, r1, e1, ⟨h1, _⟩, v2, r2, e2, ⟨h2, _⟩, h3⟩ := hv
  injection h1 with h1
  injection h2 with h2
  have h3 : r2 = [] := h3
  have e : vs = #[.string s, .int .u8 c] := by
    apply Array.ext'
    rw [e1, e2, h3, h1, h2]
  subst e
  refine (idxb_run s c E.w).mono ?_
  rintro e w' ⟨rfl, rfl⟩
  exact ⟨⟨_, rfl, rfl, rfl⟩, rfl⟩
theorem sIndexByte_ok : GoodF Tryz.prog 64 idxbS.spec := by
  have hT := tab_ok (fs := [(118, idxbS.spec)]) tree_ok
  have hP : SpecsOk Tryz.prog (tab tree [(118, idxbS.spec)]) := specs_cons idxb_ok specs_nil
  refine idxbS.good (fn := Tryz.f64) hT hP Tryz.func64 (by kernel_rfl) rfl fun (s : ByteArray) (c : Int) _ => ?_
  repeat' first
    | (refine Go.mk ?_; conv => whnf)
    | refine Need.go ?_ ?_
    | refine NilG.go (fun _ => ?_) (fun _ => ?_)
    | refine Br.dec (fun _ => ?_) (fun _ => ?_)
    | refine Br.go (fun _ => ?_) (fun _ => ?_)
    | refine draw_go hT hP mixed ?_
    | refine round_go hT hP ?_
  exact .mk [] [] _ rfl rfl rfl rfl rfl rfl rfl


def lets : List UInt8 := [97, 98, 99, 100, 101, 102, 103, 104, 105, 106, 107, 108, 109, 110, 111, 112, 113, 114, 115, 116, 117, 118, 119, 120, 121, 122]
def lets2 : List UInt8 := lets ++ [48, 49, 50, 51, 52, 53, 54, 55, 56, 57, 45]
theorem lets_all : (List.range 256).all (fun n => decide (Lib.indexByte lets n.toUInt8 < 0) == !decide (97 ≤ n ∧ n ≤ 122)) = true := by decide +kernel
theorem lets2_all : (List.range 256).all (fun n => decide (Lib.indexByte lets2 n.toUInt8 < 0) == !letB (n : Int)) = true := by decide +kernel
theorem lets_in {c : Int} (h : 0 ≤ c ∧ c < 256) : decide (Lib.indexByte lets c.toNat.toUInt8 < 0) = !decide (97 ≤ c ∧ c ≤ 122) := by
  have := List.all_eq_true.1 lets_all c.toNat (List.mem_range.2 (by omega))
  rw [beq_iff_eq] at this
  rw [this]
  congr 1
  by_cases h2 : 97 ≤ c ∧ c ≤ 122
  · rw [decide_eq_true h2, decide_eq_true (by omega)]
  · rw [decide_eq_false h2, decide_eq_false (by omega)]
theorem lets2_in {c : Int} (h : 0 ≤ c ∧ c < 256) : decide (Lib.indexByte lets2 c.toNat.toUInt8 < 0) = !letB c := by
  have := List.all_eq_true.1 lets2_all c.toNat (List.mem_range.2 (by omega))
  rw [beq_iff_eq] at this
  rw [this]
  have : ((c.toNat : Nat) : Int) = c := by omega
  rw [this]
theorem rNamed_ok : GoodF Tryz.prog 61 nameS.spec := by
  have hT := tab_ok (fs := [(64, idxbS.spec)]) tree_ok
  have hP : SpecsOk Tryz.prog (tab tree [(64, idxbS.spec)]) := specs_cons sIndexByte_ok specs_nil
  refine nameS.good (fn := Tryz.f61) hT hP Tryz.func61 (by kernel_rfl) rfl fun (s : ByteArray) _ => ?_
  have hL := bytes_len s
  repeat' first
    | (refine Go.mk ?_; conv => whnf)
    | refine Need.go ?_ ?_
    | refine NilG.go (fun _ => ?_) (fun _ => ?_)
    | refine Br.dec (fun _ => ?_) (fun _ => ?_)
    | refine Br.go (fun _ => ?_) (fun _ => ?_)
    | refine draw_go hT hP mixed ?_
    | refine round_go hT hP ?_
  · rename_i h
    have h : (s.size : Int) < 1 := h
    exact .mk [] [] _ rfl rfl rfl rfl rfl rfl (imm_bool (name_no (.inl (by omega))).symm)
  · rename_i h
    have h : (s.size : Int) > 20 := h
    exact .mk [] [] _ rfl rfl rfl rfl rfl rfl (imm_bool (name_no (.inr (.inl (by omega)))).symm)
  · rename_i h _
    have h : ¬ (s.size : Int) < 1 := h
    show 0 ≤ (0 : Int) ∧ (0 : Int) < (s.size : Int)
    omega
  · rename_i h1 h2 h3
    have h1 : ¬ (s.size : Int) < 1 := h1
    have hc := bytes_in s ((bytesOf s).getD 0 0) (by rw [List.getD_eq_getElem?_getD, List.getElem?_eq_getElem (by omega)]; exact List.getElem_mem _)
    have h3 : Lib.indexByte lets (byteAt s 0).toNat.toUInt8 < 0 := h3
    rw [byte_at] at h3
    have e := lets_in hc
    rw [decide_eq_true h3] at e
    have e : decide (97 ≤ (bytesOf s).getD 0 0 ∧ (bytesOf s).getD 0 0 ≤ 122) = false := by
      cases hd : decide (97 ≤ (bytesOf s).getD 0 0 ∧ (bytesOf s).getD 0 0 ≤ 122) with
      | true => rw [hd] at e; cases e
      | false => rfl
    have e := of_decide_eq_false e
    exact .mk [] [] _ rfl rfl rfl rfl rfl rfl (imm_bool (name_no (by omega)).symm)
  rename_i h1 h2 h3
  have h1 : ¬ (s.size : Int) < 1 := h1
  have h2 : ¬ (s.size : Int) > 20 := h2
  have hc0 := bytes_in s ((bytesOf s).getD 0 0) (by rw [List.getD_eq_getElem?_getD, List.getElem?_eq_getElem (by omega)]; exact List.getElem_mem _)
  have h3 : ¬ Lib.indexByte lets (byteAt s 0).toNat.toUInt8 < 0 := h3
  rw [byte_at] at h3
  have e := lets_in hc0
  rw [decide_eq_false h3] at e
  have e : decide (97 ≤ (bytesOf s).getD 0 0 ∧ (bytesOf s).getD 0 0 ≤ 122) = true := by
    cases hd : decide (97 ≤ (bytesOf s).getD 0 0 ∧ (bytesOf s).getD 0 0 ≤ 122) with
    | true => rfl
    | false => rw [hd] at e; cases e
  have e := of_decide_eq_true e
  have hF : nameB (bytesOf s) = (bytesOf s).all letB := by
    unfold nameB
    rw [decide_eq_true ⟨by omega, by omega, by omega, by omega⟩, Bool.true_and]
  refine up_go hT hP (A := Unit) (bytesOf s).length (fun i _ => St.mk [.imm (.string s), .dead, .dead, .dead, .dead, .dead, .dead, .dead, .dead, .dead, .dead, .dead, .dead, .dead, .dead, .dead, .dead, .dead, .dead, I (s.size : Int), I i, .dead, .dead, .dead, .dead, .dead, .dead, .dead, .dead] [])
    (fun k _ => ((bytesOf s).take k).all letB = true) () (Le.mk [] [] rfl rfl rfl ?_) (by simp) fun k _ hk hi => ?_
  · repeat' first | exact trivial | exact ⟨rfl, rfl⟩ | refine And.intro ?_ ?_
  repeat' first
    | (refine Go.mk ?_; conv => whnf)
    | refine Need.go ?_ ?_
    | refine NilG.go (fun _ => ?_) (fun _ => ?_)
    | refine Br.dec (fun _ => ?_) (fun _ => ?_)
    | refine Br.go (fun _ => ?_) (fun _ => ?_)
    | refine draw_go hT hP mixed ?_
    | refine round_go hT hP ?_
  · rename_i g1
    have g1 : (k : Int) < (s.size : Int) := g1
    show 0 ≤ (k : Int) ∧ (k : Int) < (s.size : Int)
    omega
  · rename_i g1 g2
    have g1 : (k : Int) < (s.size : Int) := g1
    have hk2 : k < (bytesOf s).length := by omega
    have hc := bytes_in s ((bytesOf s).getD k 0) (by rw [List.getD_eq_getElem?_getD, List.getElem?_eq_getElem hk2]; exact List.getElem_mem _)
    have g2 : Lib.indexByte lets2 (byteAt s k).toNat.toUInt8 < 0 := g2
    rw [byte_at] at g2
    have e := lets2_in hc
    rw [decide_eq_true g2] at e
    have e : letB ((bytesOf s).getD k 0) = false := by
      cases hd : letB ((bytesOf s).getD k 0) with
      | true => rw [hd] at e; cases e
      | false => rfl
    refine .mk [] [] _ rfl rfl rfl rfl rfl rfl (imm_bool ?_)
    rw [hF, all_no hk2 e]
  · rename_i g1 g2
    have g1 : (k : Int) < (s.size : Int) := g1
    have hk2 : k < (bytesOf s).length := by omega
    have hc := bytes_in s ((bytesOf s).getD k 0) (by rw [List.getD_eq_getElem?_getD, List.getElem?_eq_getElem hk2]; exact List.getElem_mem _)
    have g2 : ¬ Lib.indexByte lets2 (byteAt s k).toNat.toUInt8 < 0 := g2
    rw [byte_at] at g2
    have e := lets2_in hc
    rw [decide_eq_false g2] at e
    have e : letB ((bytesOf s).getD k 0) = true := by
      cases hd : letB ((bytesOf s).getD k 0) with
      | true => rfl
      | false => rw [hd] at e; cases e
    apply Exists.intro
    apply Exists.intro ()
    refine And.intro (And.intro ?lt166 (And.intro ?ei166 ?inv166)) (Le.mk [] [] rfl rfl ?hh166 ?ht166)
    case hh166 => exact rfl
    case ht166 => repeat' first | exact trivial | exact ⟨rfl, rfl⟩ | refine And.intro ?_ ?_
    case lt166 => omega
    case ei166 => exact up_i (by omega)
    exact all_take hk2 hi e
  · rename_i g1
    have g1 : ¬ (k : Int) < (s.size : Int) := g1
    refine .mk [] [] _ rfl rfl rfl rfl rfl rfl (imm_bool ?_)
    rw [hF]
    rw [List.take_of_length_le (by omega)] at hi
    exact hi.symm

end Go.Proofs.YtofgbclopbmlcaaGreat

/- Numbers as bytes, seven bits each: plain functions. -/
namespace Go.Proofs.YtofgbclopbmlcaaGreat
open Go.Fw
set_option linter.unusedVariables false
set_option linter.unusedSimpArgs false

def enc7 (u : Nat) : List Int := if u < 128 then [(u : Int)] else ((u % 128 + 128 : Nat) : Int) :: enc7 (u / 128)
termination_by u
decreasing_by omega
theorem enc7_lt {u : Nat} (h : u < 128) : enc7 u = [(u : Int)] := by rw [enc7, if_pos h]
theorem enc7_ge {u : Nat} (h : ¬ u < 128) : enc7 u = ((u % 128 + 128 : Nat) : Int) :: enc7 (u / 128) := by rw [enc7, if_neg h]
theorem enc7_len : ∀ (k u : Nat), u < 128 ^ (k + 1) → (enc7 u).length ≤ k + 1
  | 0, u, h => by rw [enc7_lt (by simpa using h)]; simp
  | k + 1, u, h => by
    by_cases h1 : u < 128
    · rw [enc7_lt h1]; simp
    · rw [enc7_ge h1]
      have h2 : u / 128 < 128 ^ (k + 1) := by
        rw [Nat.pow_succ] at h
        exact Nat.div_lt_of_lt_mul (by rw [Nat.mul_comm]; exact h)
      have := enc7_len k (u / 128) h2
      simp only [List.length_cons]; omega
theorem enc7_10 {u : Nat} (h : u < 18446744073709551616) : (enc7 u).length ≤ 10 := enc7_len 9 u (Nat.lt_of_lt_of_le h (by decide))
def zig (n : Int) : Nat := if n < 0 then (-(2 * n) - 1).toNat else (2 * n).toNat
def i64P (n : Int) : Prop := -9223372036854775808 ≤ n ∧ n ≤ 9223372036854775807
theorem zig_lt {n : Int} (h : i64P n) : zig n < 18446744073709551616 := by
  unfold i64P at h; unfold zig; split <;> omega
def encI (n : Int) : List Int := enc7 (zig n)
theorem encI_len {n : Int} (h : i64P n) : (encI n).length ≤ 10 := enc7_10 (zig_lt h)
def encAll (l : List Int) : List Int := l.flatMap encI
theorem encAll_cons (n : Int) (l : List Int) : encAll (n :: l) = encI n ++ encAll l := rfl
theorem encAll_append (l m : List Int) : encAll (l ++ m) = encAll l ++ encAll m := by unfold encAll; rw [List.flatMap_append]
theorem encAll_len {l : List Int} (h : ∀ n ∈ l, i64P n) : (encAll l).length ≤ 10 * l.length := by
  induction l with
  | nil => simp [encAll]
  | cons x r ih =>
    have h1 := encI_len (h x (List.mem_cons_self ..))
    have h2 := ih fun n hn => h n (List.mem_cons_of_mem _ hn)
    rw [encAll_cons, List.length_append, List.length_cons]; omega
/-- the tail of a number whose last byte so far is d -/
def tail7 (d : Int) (u : Nat) : List Int := if u = 0 then [d] else (d + 128) :: enc7 u
theorem tail7_go {d : Int} {u : Nat} (h : u ≠ 0) : tail7 d u = (d + 128) :: tail7 ((u % 128 : Nat) : Int) (u / 128) := by
  rw [tail7, if_neg h, tail7]
  by_cases h1 : u < 128
  · rw [enc7_lt h1, if_pos (by omega), Nat.mod_eq_of_lt h1]
  · rw [enc7_ge h1, if_neg (by omega)]
    rfl
theorem tail7_first (u : Nat) (b : Nat) (hb : b < 2) : tail7 ((u % 64 * 2 + b : Nat) : Int) (u / 64) = enc7 (2 * u + b) := by
  rw [tail7]
  by_cases h : u / 64 = 0
  · rw [if_pos h, enc7_lt (u := 2 * u + b) (by omega), show u % 64 * 2 + b = 2 * u + b by omega]
  · rw [if_neg h, enc7_ge (u := 2 * u + b) (by omega), show (2 * u + b) / 128 = u / 64 by omega, show (2 * u + b) % 128 = u % 64 * 2 + b by omega]
    rfl

-- operators of uint64 and of bytes
theorem wu64 (x : Int) : IntKind.u64.wrap x = x % 18446744073709551616 := rfl
theorem wu8 (x : Int) : IntKind.u8.wrap x = x % 256 := rfl
theorem shr_u64 (x : Int) (k : Nat) (hk : k ≤ 64) : shr .u64 x k = x / 2 ^ k := by
  unfold shr
  rw [Int.toNat_natCast, show IntKind.u64.bits = 64 from rfl, Nat.min_eq_left hk, Int.fdiv_eq_ediv_of_nonneg _ (by exact_mod_cast Nat.zero_le _)]
theorem shr7_u64 (x : Int) : shr .u64 x 7 = x / 128 := shr_u64 x 7 (by decide)
theorem shr6_u64 (x : Int) : shr .u64 x 6 = x / 64 := shr_u64 x 6 (by decide)
theorem landu_nat {a b : Nat} (ha : a < 2 ^ 64) (hb : b < 2 ^ 64) : land .u64 (a : Int) (b : Int) = ((a &&& b : Nat) : Int) := by
  show (((BitVec.ofInt 64 (a : Int) &&& BitVec.ofInt 64 (b : Int)).toNat : Nat) : Int) % 18446744073709551616 = _
  rw [BitVec.toNat_and, ofInt_toNat, ofInt_toNat, u64_nat ha, u64_nat hb]
  have := Nat.and_lt_two_pow a hb
  omega
theorem land_u64 {x : Int} (h : 0 ≤ x ∧ x < 18446744073709551616) (k : Nat) (hk : k < 63) : land .u64 x ((2 ^ k - 1 : Nat) : Int) = x % ((2 ^ k : Nat) : Int) := by
  obtain ⟨n, rfl⟩ := Int.eq_ofNat_of_zero_le h.1
  have hp : 2 ^ k ≤ 2 ^ 63 := Nat.pow_le_pow_right (by omega) (by omega)
  rw [landu_nat (by omega) (by omega), Nat.and_two_pow_sub_one_eq_mod, Int.natCast_emod]
theorem land63_u64 {x : Int} (h : 0 ≤ x ∧ x < 18446744073709551616) : land .u64 x 63 = x % 64 := land_u64 h 6 (by decide)
theorem land127_u64 {x : Int} (h : 0 ≤ x ∧ x < 18446744073709551616) : land .u64 x 127 = x % 128 := land_u64 h 7 (by decide)
theorem or128_u8 : ∀ x : Int, 0 ≤ x → x < 256 → lor .u8 x 128 = x % 128 + 128 := fin256 (fun x => lor .u8 x 128 = x % 128 + 128) (by decide +kernel)
theorem shl1_u8 (x : Int) : shl .u8 x 1 = (x * 2) % 256 := rfl

end Go.Proofs.YtofgbclopbmlcaaGreat

