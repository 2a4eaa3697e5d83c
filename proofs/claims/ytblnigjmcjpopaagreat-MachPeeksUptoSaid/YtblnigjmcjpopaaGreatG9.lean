/- Part 9 of the proof: SerialActs SoundLaw Sound Sound2 Sound3 Sound4 Sound5 Name Byte Tables RefLaw PinLaw Pin. No statement is handed in here; conditions: none. -/
import Derived.Test.YtblnigjmcjpopaaGreatG7
import Derived.Test.YtblnigjmcjpopaaGreatG8
import Derived.Test.YtblnigjmcjpopaaGreatG6
import Derived.WalkKit
import Derived.Lib.Walk
import Derived.Lib.Bytealg
import Derived.Laws.Bits64
/- bakelaw1.SerialActs answers true, whatever it is given. -/
namespace Go.Proofs.YtblnigjmcjpopaaGreat
open Go.Fw
set_option linter.unusedVariables false
set_option linter.unusedSimpArgs false
set_option maxRecDepth 100000

theorem ctl4 {c : Int} (h0 : 0 ≤ c) (h1 : c < 4) : ((land .i64 c 1 != 0) = decide (c % 2 = 1)) ∧ ((land .i64 c 2 != 0) = decide (c ≥ 2)) := by
  have : c = 0 ∨ c = 1 ∨ c = 2 ∨ c = 3 := by omega
  rcases this with rfl | rfl | rfl | rfl <;> decide +kernel

def sfreshS : PSpec := ⟨[gC], fun (c, _) => (some (c.2.1 = 5), devR, [.arr (.int .i64) [0, 0, 0, 0, 0, 0, 0, 0]])⟩
def sloadedS : PSpec := ⟨[gC, gD, gi], fun (c, d, a, _) => (some (c.2.1 = 5), .tup [.agg [.own 0, .imm (.slice none 0 0)], I1 (srF d.1 a)], [.arr (.int .i64) (srN d.1 a)])⟩
theorem sloaded_ok : GoodF Tryz.prog 7 sloadedS.spec := by
  have hT := tab_ok (fs := [(36, sformedS.spec), (37, pickS.spec), (39, truthS.spec)]) tree_ok
  have hP : SpecsOk Tryz.prog (tab tree [(36, sformedS.spec), (37, pickS.spec), (39, truthS.spec)]) := specs_cons sformed_ok (specs_cons pick_ok (specs_cons seen_ok specs_nil))
  refine sloadedS.good (fn := Tryz.f7) hT hP Tryz.func7 (by kernel_rfl) rfl fun (c : Cv) (d : Dv) (a : Int) hp => ?_
  obtain ⟨cn, ck, cb, cs, cd⟩ := c
  obtain rfl : ck = 5 := hp _ rfl
  obtain ⟨N, M⟩ := d
  obtain ⟨h0, h1, h2, h3, h4, h5, h6, h7⟩ := sR N
  have hb : 0 ≤ bitI (decide (s1 N > 0)) ∧ bitI (decide (s1 N > 0)) ≤ 1 := by cases decide (s1 N > 0) <;> decide
  have hv : IntKind.i64.wrap (IntKind.i64.wrap (s3 N + IntKind.i64.wrap (2 * bitI (decide (s1 N > 0)))) + IntKind.i64.wrap (4 * s4 N)) = s3 N + 2 * bitI (decide (s1 N > 0)) + 4 * s4 N := by
    rw [w64 (x := 2 * bitI (decide (s1 N > 0))) (by omega) (by omega), w64 (x := 4 * s4 N) (by omega) (by omega), w64 (x := s3 N + 2 * bitI (decide (s1 N > 0))) (by omega) (by omega), w64 (by omega) (by omega)]
  have fin : ∀ x, x = [s0 N, s1 N, s2 N, s3 N, s4 N, s5 N, s6 N, s7 N] → True := fun _ _ => trivial
  repeat' first
    | (refine Go.mk ?_; conv => whnf)
    | refine Need.go ?_ ?_
    | refine NilG.go (fun _ => ?_) (fun _ => ?_)
    | refine Br.dec (fun _ => ?_) (fun _ => ?_)
    | refine Br.go (fun _ => ?_) (fun _ => ?_)
    | refine draw_go hT hP mixed ?_
    | refine round_go hT hP ?_
  all_goals first
    | exact rfl
    | exact of_decide_eq_true rfl
    | skip
  all_goals
    refine .mk [] [4] _ rfl rfl rfl rfl rfl ?_ (tup_reads (congrArg (fun z => pickF [s2 N, z, s5 N] a) hv))
  · rename_i g0 g1
    have g0 : a = 0 := g0
    have g1 : a = 1 := g1
    omega
  · rename_i g0 g1
    have g0 : a = 0 := g0
    subst g0
    exact rfl
  · rename_i g0 g1
    have g1 : a = 1 := g1
    subst g1
    exact rfl
  · rename_i g0 g1
    have g0 : ¬ a = 0 := g0
    have g1 : ¬ a = 1 := g1
    refine blk_eqs (l := serN N) (l' := srN N a) ?_
    rw [serN_eq, srN, if_neg g0, if_neg g1]

def swN (N : List Int) (a k : Int) : List Int :=
  [if a = 0 ∧ s1 N = 0 then k % 256 else s0 N, if a = 0 ∧ s1 N = 0 then 40 else s1 N, s2 N, s3 N, s4 N, if a = 2 then k % 4 else s5 N, s6 N, s7 N]
def swriteS : PSpec := ⟨[gD, gi, gi], fun (d, a, k, _) => (none, devR, [.arr (.int .i64) (swN d.1 a k)])⟩
theorem swN_0 {N : List Int} {k : Int} (h : s1 N = 0) : swN N 0 k = [k % 256, 40, s2 N, s3 N, s4 N, s5 N, s6 N, s7 N] := by
  rw [swN, if_pos ⟨rfl, h⟩, if_pos ⟨rfl, h⟩, if_neg (by omega)]
theorem swN_2 {N : List Int} {k : Int} : swN N 2 k = [s0 N, s1 N, s2 N, s3 N, s4 N, k % 4, s6 N, s7 N] := by
  rw [swN, if_neg (fun e => by omega), if_neg (fun e => by omega), if_pos rfl]
theorem swN_no {N : List Int} {a k : Int} (h : ¬ (a = 0 ∧ s1 N = 0)) (h2 : ¬ a = 2) : swN N a k = serN N := by
  rw [swN, if_neg h, if_neg h, if_neg h2]; rfl
theorem swrite_ok : GoodF Tryz.prog 45 swriteS.spec := by
  have hT := tab_ok (fs := [(91, sfitS.spec), (75, lowM.spec)]) tree_ok
  have hP : SpecsOk Tryz.prog (tab tree [(91, sfitS.spec), (75, lowM.spec)]) := specs_cons sfit_ok (specs_cons lowM_ok specs_nil)
  refine swriteS.good (fn := Tryz.f45) hT hP Tryz.func45 (by kernel_rfl) rfl fun (d : Dv) (a k : Int) _ => ?_
  obtain ⟨N, M⟩ := d
  repeat' first
    | (refine Go.mk ?_; conv => whnf)
    | refine Need.go ?_ ?_
    | refine NilG.go (fun _ => ?_) (fun _ => ?_)
    | refine Br.dec (fun _ => ?_) (fun _ => ?_)
    | refine Br.go (fun _ => ?_) (fun _ => ?_)
    | refine draw_go hT hP mixed ?_
    | refine round_go hT hP ?_
  all_goals first
    | exact rfl
    | exact of_decide_eq_true rfl
    | skip
  · rename_i g0 g1
    have g1 : s1 N = 0 := g1
    subst g0
    refine .mk [] [2] _ rfl rfl rfl rfl rfl (blk_eqs (l := [k % 2 ^ (8 : Int).toNat, 40, s2 N, s3 N, s4 N, s5 N, s6 N, s7 N]) (l' := swN N 0 k) ?_) rfl
    rw [swN_0 g1]; rfl
  · rename_i g0 g1 g2
    omega
  · rename_i g0 g1 g2
    have g1 : ¬ s1 N = 0 := g1
    refine .mk [] [2] _ rfl rfl rfl rfl rfl (blk_eqs (l := serN N) (l' := swN N a k) ?_) rfl
    rw [swN_no (fun e => g1 e.2) g2]
  · rename_i g0 g1
    subst g1
    refine .mk [] [2] _ rfl rfl rfl rfl rfl (blk_eqs (l := [s0 N, s1 N, s2 N, s3 N, s4 N, k % 2 ^ (2 : Int).toNat, s6 N, s7 N]) (l' := swN N 2 k) ?_) rfl
    rw [swN_2]; rfl
  · rename_i g0 g1
    refine .mk [] [2] _ rfl rfl rfl rfl rfl (blk_eqs (l := serN N) (l' := swN N a k) ?_) rfl
    rw [swN_no (fun e => g0 e.1) g1]

def sstoredS : PSpec := ⟨[gC, gD, gi, gi], fun (c, d, a, k, _) => (some (c.2.1 = 5), devR, [.arr (.int .i64) (swN d.1 a k)])⟩
theorem sstored_ok : GoodF Tryz.prog 10 sstoredS.spec := by
  have hT := tab_ok (fs := [(36, sformedS.spec), (22, modS.spec)]) tree_ok
  have hP : SpecsOk Tryz.prog (tab tree [(36, sformedS.spec), (22, modS.spec)]) := specs_cons sformed_ok (specs_cons mod_ok specs_nil)
  refine sstoredS.good (fn := Tryz.f10) hT hP Tryz.func10 (by kernel_rfl) rfl fun (c : Cv) (d : Dv) (a k : Int) hp => ?_
  obtain ⟨cn, ck, cb, cs, cd⟩ := c
  obtain rfl : ck = 5 := hp _ rfl
  obtain ⟨N, M⟩ := d
  repeat' first
    | (refine Go.mk ?_; conv => whnf)
    | refine Need.go ?_ ?_
    | refine NilG.go (fun _ => ?_) (fun _ => ?_)
    | refine Br.dec (fun _ => ?_) (fun _ => ?_)
    | refine Br.go (fun _ => ?_) (fun _ => ?_)
    | refine draw_go hT hP mixed ?_
    | refine round_go hT hP ?_
  all_goals first
    | exact rfl
    | exact of_decide_eq_true rfl
    | skip
  · rename_i g0 g1 g2
    omega
  · rename_i g0 g1 g2
    have g0 : a = 0 := g0
    have g1 : s1 N = 0 := g1
    subst g0
    refine .mk [] [3] _ rfl rfl rfl rfl rfl (blk_eqs (l := [k % 256, 40, s2 N, s3 N, s4 N, s5 N, s6 N, s7 N]) (l' := swN N 0 k) ?_) rfl
    rw [swN_0 g1]
  · rename_i g0 g1 g2
    omega
  · rename_i g0 g1 g2
    have g1 : ¬ s1 N = 0 := g1
    refine .mk [] [3] _ rfl rfl rfl rfl rfl (blk_eqs (l := serN N) (l' := swN N a k) ?_) rfl
    rw [swN_no (fun e => g1 e.2) g2]
  · rename_i g0 g1
    subst g1
    refine .mk [] [3] _ rfl rfl rfl rfl rfl (blk_eqs (l := [s0 N, s1 N, s2 N, s3 N, s4 N, Int.tmod (k % 256) 4, s6 N, s7 N]) (l' := swN N 2 k) ?_) rfl
    have e : Int.tmod (k % 256) 4 = k % 4 := by rw [Int.tmod_eq_emod_of_nonneg (by omega)]; omega
    rw [swN_2, e]
  · rename_i g0 g1
    refine .mk [] [3] _ rfl rfl rfl rfl rfl (blk_eqs (l := serN N) (l' := swN N a k) ?_) rfl
    rw [swN_no (fun e => g0 e.1) g1]

def sgivenS : PSpec := ⟨[gC, gD, gi], fun (c, d, k, _) => (some (c.2.1 = 5), devR, [.arr (.int .i64) (sinN d.1 k)])⟩
theorem sgiven_ok : GoodF Tryz.prog 12 sgivenS.spec := by
  have hT := tab_ok (fs := [(36, sformedS.spec), (22, modS.spec)]) tree_ok
  have hP : SpecsOk Tryz.prog (tab tree [(36, sformedS.spec), (22, modS.spec)]) := specs_cons sformed_ok (specs_cons mod_ok specs_nil)
  refine sgivenS.good (fn := Tryz.f12) hT hP Tryz.func12 (by kernel_rfl) rfl fun (c : Cv) (d : Dv) (k : Int) hp => ?_
  obtain ⟨cn, ck, cb, cs, cd⟩ := c
  obtain rfl : ck = 5 := hp _ rfl
  obtain ⟨N, M⟩ := d
  repeat' first
    | (refine Go.mk ?_; conv => whnf)
    | refine Need.go ?_ ?_
    | refine NilG.go (fun _ => ?_) (fun _ => ?_)
    | refine Br.dec (fun _ => ?_) (fun _ => ?_)
    | refine Br.go (fun _ => ?_) (fun _ => ?_)
    | refine draw_go hT hP mixed ?_
    | refine round_go hT hP ?_
  all_goals first
    | exact rfl
    | exact of_decide_eq_true rfl
    | (rename_i h
       have h : s3 N = 1 := h
       refine .mk [] [3] _ rfl rfl rfl rfl rfl (blk_eqs (l := [s0 N, s1 N, s2 N, s3 N, 1, s5 N, s6 N, s7 N]) ?_) rfl
       show _ = sinN N k
       rw [sinN, if_pos h, if_pos h, h])
    | (rename_i h
       have h : ¬ s3 N = 1 := h
       refine .mk [] [3] _ rfl rfl rfl rfl rfl (blk_eqs (l := [s0 N, s1 N, k % 256, 1, s4 N, s5 N, s6 N, s7 N]) ?_) rfl
       show _ = sinN N k
       rw [sinN, if_neg h, if_neg h])

def sirqF (N : List Int) : Bool := (decide (s5 N % 2 = 1) && decide (s3 N = 1)) || (decide (s5 N ≥ 2) && decide (s1 N = 0))
theorem sirq1 {N : List Int} (h : s5 N % 2 = 1) (h2 : s3 N = 1) : true = sirqF N := by unfold sirqF; rw [decide_eq_true h, decide_eq_true h2]; rfl
theorem sirq2 {N : List Int} (h : ¬ (s5 N % 2 = 1 ∧ s3 N = 1)) (h2 : s5 N ≥ 2) : decide (s1 N = 0) = sirqF N := by
  unfold sirqF
  rw [← Bool.decide_and, decide_eq_false h, decide_eq_true h2]; rfl
theorem sirq3 {N : List Int} (h : ¬ (s5 N % 2 = 1 ∧ s3 N = 1)) (h2 : ¬ s5 N ≥ 2) : false = sirqF N := by
  unfold sirqF
  rw [← Bool.decide_and, decide_eq_false h, decide_eq_false h2]; rfl
def sirqS : PSpec := ⟨[gD], fun (d, _) => (none, .cell (bv (sirqF d.1)), [])⟩
theorem sirq_ok : GoodF Tryz.prog 55 sirqS.spec := by
  have hT := tab_ok (fs := [(91, sfitS.spec)]) tree_ok
  have hP : SpecsOk Tryz.prog (tab tree [(91, sfitS.spec)]) := specs_cons sfit_ok specs_nil
  refine sirqS.good (fn := Tryz.f55) hT hP Tryz.func55 (by kernel_rfl) rfl fun (d : Dv) _ => ?_
  obtain ⟨N, M⟩ := d
  obtain ⟨h0, h1, h2, h3, h4, h5, h6, h7⟩ := sR N
  obtain ⟨c1, c2⟩ := ctl4 h5.1 h5.2
  repeat' first
    | (refine Go.mk ?_; conv => whnf)
    | refine Need.go ?_ ?_
    | refine NilG.go (fun _ => ?_) (fun _ => ?_)
    | refine Br.dec (fun _ => ?_) (fun _ => ?_)
    | refine Br.go (fun _ => ?_) (fun _ => ?_)
    | refine draw_go hT hP mixed ?_
    | refine round_go hT hP ?_
  all_goals first
    | exact of_decide_eq_true rfl
    | skip
  · rename_i g q
    have g : (land .i64 (s5 N) 1 != 0) = true := g; rw [c1] at g; have g := of_decide_eq_true g
    have q : s3 N = 1 := q
    refine .mk [] [] _ rfl rfl rfl rfl rfl rfl (imm_bool ?_)
    show true = sirqF N
    exact sirq1 g q
  · rename_i g q r
    have g : (land .i64 (s5 N) 1 != 0) = true := g; rw [c1] at g; have g := of_decide_eq_true g
    have q : ¬ s3 N = 1 := q
    have r : (land .i64 (s5 N) 2 != 0) = true := r; rw [c2] at r; have r := of_decide_eq_true r
    refine .mk [] [] _ rfl rfl rfl rfl rfl rfl (imm_bool ?_)
    show decide (s1 N = 0) = sirqF N
    exact sirq2 (fun e => q e.2) r
  · rename_i g q r
    have g : (land .i64 (s5 N) 1 != 0) = true := g; rw [c1] at g; have g := of_decide_eq_true g
    have q : ¬ s3 N = 1 := q
    have r : (land .i64 (s5 N) 2 != 0) = false := r; rw [c2] at r; have r := of_decide_eq_false r
    refine .mk [] [] _ rfl rfl rfl rfl rfl rfl (imm_bool ?_)
    show false = sirqF N
    exact sirq3 (fun e => q e.2) r
  · rename_i g r
    have g : (land .i64 (s5 N) 1 != 0) = false := g; rw [c1] at g; have g := of_decide_eq_false g
    have r : (land .i64 (s5 N) 2 != 0) = true := r; rw [c2] at r; have r := of_decide_eq_true r
    refine .mk [] [] _ rfl rfl rfl rfl rfl rfl (imm_bool ?_)
    show decide (s1 N = 0) = sirqF N
    exact sirq2 (fun e => g e.1) r
  · rename_i g r
    have g : (land .i64 (s5 N) 1 != 0) = false := g; rw [c1] at g; have g := of_decide_eq_false g
    have r : (land .i64 (s5 N) 2 != 0) = false := r; rw [c2] at r; have r := of_decide_eq_false r
    refine .mk [] [] _ rfl rfl rfl rfl rfl rfl (imm_bool ?_)
    show false = sirqF N
    exact sirq3 (fun e => g e.1) r


def saskS : PSpec := ⟨[gC, gD], fun (c, d, _) => (some (c.2.1 = 5), .cell (bv (sirqF d.1)), [])⟩
theorem sask_ok : GoodF Tryz.prog 14 saskS.spec := by
  have hT := tab_ok (fs := [(36, sformedS.spec)]) tree_ok
  have hP : SpecsOk Tryz.prog (tab tree [(36, sformedS.spec)]) := specs_cons sformed_ok specs_nil
  refine saskS.good (fn := Tryz.f14) hT hP Tryz.func14 (by kernel_rfl) rfl fun (c : Cv) (d : Dv) hp => ?_
  obtain ⟨cn, ck, cb, cs, cd⟩ := c
  obtain rfl : ck = 5 := hp _ rfl
  obtain ⟨N, M⟩ := d
  obtain ⟨h0, h1, h2, h3, h4, h5, h6, h7⟩ := sR N
  repeat' first
    | (refine Go.mk ?_; conv => whnf)
    | refine Need.go ?_ ?_
    | refine NilG.go (fun _ => ?_) (fun _ => ?_)
    | refine Br.dec (fun _ => ?_) (fun _ => ?_)
    | refine Br.go (fun _ => ?_) (fun _ => ?_)
    | refine draw_go hT hP mixed ?_
    | refine round_go hT hP ?_
  all_goals first
    | exact rfl
    | exact of_decide_eq_true rfl
    | skip
  · rename_i g q
    have g : Int.tmod (s5 N) 2 = 1 := g; rw [Int.tmod_eq_emod_of_nonneg h5.1] at g
    have q : s3 N = 1 := q
    refine .mk [] [] _ rfl rfl rfl rfl rfl rfl (imm_bool ?_)
    show true = sirqF N
    exact sirq1 g q
  · rename_i g q r
    have g : Int.tmod (s5 N) 2 = 1 := g; rw [Int.tmod_eq_emod_of_nonneg h5.1] at g
    have q : ¬ s3 N = 1 := q
    have r : s5 N ≥ 2 := r
    refine .mk [] [] _ rfl rfl rfl rfl rfl rfl (imm_bool ?_)
    show decide (s1 N = 0) = sirqF N
    exact sirq2 (fun e => q e.2) r
  · rename_i g q r
    have g : Int.tmod (s5 N) 2 = 1 := g; rw [Int.tmod_eq_emod_of_nonneg h5.1] at g
    have q : ¬ s3 N = 1 := q
    have r : ¬ s5 N ≥ 2 := r
    refine .mk [] [] _ rfl rfl rfl rfl rfl rfl (imm_bool ?_)
    show false = sirqF N
    exact sirq3 (fun e => q e.2) r
  · rename_i g r
    have g : ¬ Int.tmod (s5 N) 2 = 1 := g; rw [Int.tmod_eq_emod_of_nonneg h5.1] at g
    have r : s5 N ≥ 2 := r
    refine .mk [] [] _ rfl rfl rfl rfl rfl rfl (imm_bool ?_)
    show decide (s1 N = 0) = sirqF N
    exact sirq2 (fun e => g e.1) r
  · rename_i g r
    have g : ¬ Int.tmod (s5 N) 2 = 1 := g; rw [Int.tmod_eq_emod_of_nonneg h5.1] at g
    have r : ¬ s5 N ≥ 2 := r
    refine .mk [] [] _ rfl rfl rfl rfl rfl rfl (imm_bool ?_)
    show false = sirqF N
    exact sirq3 (fun e => g e.1) r


def soutS : PSpec := ⟨[gD], fun (d, _) => (none, I (s6 d.1 * 256 + s7 d.1), [])⟩
theorem sout_ok : GoodF Tryz.prog 58 soutS.spec := by
  have hT := tab_ok (fs := [(91, sfitS.spec)]) tree_ok
  have hP : SpecsOk Tryz.prog (tab tree [(91, sfitS.spec)]) := specs_cons sfit_ok specs_nil
  refine soutS.good (fn := Tryz.f58) hT hP Tryz.func58 (by kernel_rfl) rfl fun (d : Dv) _ => ?_
  obtain ⟨N, M⟩ := d
  obtain ⟨h0, h1, h2, h3, h4, h5, h6, h7⟩ := sR N
  repeat' first
    | (refine Go.mk ?_; conv => whnf)
    | refine Need.go ?_ ?_
    | refine NilG.go (fun _ => ?_) (fun _ => ?_)
    | refine Br.dec (fun _ => ?_) (fun _ => ?_)
    | refine Br.go (fun _ => ?_) (fun _ => ?_)
    | refine draw_go hT hP mixed ?_
    | refine round_go hT hP ?_
  all_goals first
    | exact of_decide_eq_true rfl
    | (refine .mk [] [] _ rfl rfl rfl rfl rfl rfl (imm_int ?_)
       show IntKind.i64.wrap (IntKind.i64.wrap (256 * s6 N) + s7 N) = s6 N * 256 + s7 N
       rw [w64 (x := 256 * s6 N) (by omega) (by omega), w64 (by omega) (by omega)]; omega)

def sshowsS : PSpec := ⟨[gC, gD], fun (c, d, _) => (some (c.2.1 = 5), I (s6 d.1 * 256 + s7 d.1), [])⟩
theorem sshows_ok : GoodF Tryz.prog 16 sshowsS.spec := by
  have hT := tab_ok (fs := [(36, sformedS.spec)]) tree_ok
  have hP : SpecsOk Tryz.prog (tab tree [(36, sformedS.spec)]) := specs_cons sformed_ok specs_nil
  refine sshowsS.good (fn := Tryz.f16) hT hP Tryz.func16 (by kernel_rfl) rfl fun (c : Cv) (d : Dv) hp => ?_
  obtain ⟨cn, ck, cb, cs, cd⟩ := c
  obtain rfl : ck = 5 := hp _ rfl
  obtain ⟨N, M⟩ := d
  obtain ⟨h0, h1, h2, h3, h4, h5, h6, h7⟩ := sR N
  repeat' first
    | (refine Go.mk ?_; conv => whnf)
    | refine Need.go ?_ ?_
    | refine NilG.go (fun _ => ?_) (fun _ => ?_)
    | refine Br.dec (fun _ => ?_) (fun _ => ?_)
    | refine Br.go (fun _ => ?_) (fun _ => ?_)
    | refine draw_go hT hP mixed ?_
    | refine round_go hT hP ?_
  all_goals first
    | exact rfl
    | exact of_decide_eq_true rfl
    | (refine .mk [] [] _ rfl rfl rfl rfl rfl rfl (imm_int ?_)
       show IntKind.i64.wrap (IntKind.i64.wrap (s6 N * 256) + s7 N) = s6 N * 256 + s7 N
       rw [w64 (x := s6 N * 256) (by omega) (by omega), w64 (by omega) (by omega)])

def snextF (N : List Int) : Int := if s1 N = 0 then 100000 else s1 N - 1
def snextS : PSpec := ⟨[gD], fun (d, _) => (none, I (snextF d.1), [])⟩
theorem snext_ok : GoodF Tryz.prog 64 snextS.spec := by
  have hT := tab_ok (fs := [(91, sfitS.spec)]) tree_ok
  have hP : SpecsOk Tryz.prog (tab tree [(91, sfitS.spec)]) := specs_cons sfit_ok specs_nil
  refine snextS.good (fn := Tryz.f64) hT hP Tryz.func64 (by kernel_rfl) rfl fun (d : Dv) _ => ?_
  obtain ⟨N, M⟩ := d
  obtain ⟨h0, h1, h2, h3, h4, h5, h6, h7⟩ := sR N
  repeat' first
    | (refine Go.mk ?_; conv => whnf)
    | refine Need.go ?_ ?_
    | refine NilG.go (fun _ => ?_) (fun _ => ?_)
    | refine Br.dec (fun _ => ?_) (fun _ => ?_)
    | refine Br.go (fun _ => ?_) (fun _ => ?_)
    | refine draw_go hT hP mixed ?_
    | refine round_go hT hP ?_
  all_goals first
    | exact of_decide_eq_true rfl
    | (rename_i h
       have h : s1 N = 0 := h
       refine .mk [] [] _ rfl rfl rfl rfl rfl rfl (imm_int ?_)
       show _ = snextF N
       rw [snextF, if_pos h])
    | (rename_i h
       have h : ¬ s1 N = 0 := h
       refine .mk [] [] _ rfl rfl rfl rfl rfl rfl (imm_int ?_)
       show IntKind.i64.wrap (s1 N - 1) = snextF N
       rw [snextF, if_neg h, w64 (by omega) (by omega)])

def srestsS : PSpec := ⟨[gC, gD], fun (c, d, _) => (some (c.2.1 = 5), I (snextF d.1), [])⟩
theorem srests_ok : GoodF Tryz.prog 18 srestsS.spec := by
  have hT := tab_ok (fs := [(36, sformedS.spec)]) tree_ok
  have hP : SpecsOk Tryz.prog (tab tree [(36, sformedS.spec)]) := specs_cons sformed_ok specs_nil
  refine srestsS.good (fn := Tryz.f18) hT hP Tryz.func18 (by kernel_rfl) rfl fun (c : Cv) (d : Dv) hp => ?_
  obtain ⟨cn, ck, cb, cs, cd⟩ := c
  obtain rfl : ck = 5 := hp _ rfl
  obtain ⟨N, M⟩ := d
  obtain ⟨h0, h1, h2, h3, h4, h5, h6, h7⟩ := sR N
  repeat' first
    | (refine Go.mk ?_; conv => whnf)
    | refine Need.go ?_ ?_
    | refine NilG.go (fun _ => ?_) (fun _ => ?_)
    | refine Br.dec (fun _ => ?_) (fun _ => ?_)
    | refine Br.go (fun _ => ?_) (fun _ => ?_)
    | refine draw_go hT hP mixed ?_
    | refine round_go hT hP ?_
  all_goals first
    | exact rfl
    | exact of_decide_eq_true rfl
    | (rename_i h
       have h : s1 N > 0 := h
       refine .mk [] [] _ rfl rfl rfl rfl rfl rfl (imm_int ?_)
       show IntKind.i64.wrap (s1 N - 1) = snextF N
       rw [snextF, if_neg (by omega), w64 (by omega) (by omega)])
    | (rename_i h
       have h : ¬ s1 N > 0 := h
       refine .mk [] [] _ rfl rfl rfl rfl rfl rfl (imm_int ?_)
       show _ = snextF N
       rw [snextF, if_pos (by omega)])

def saS : PSpec := ⟨[gD, gi, gi], fun (d, a, k, _) => (none, .cell (bv true), [])⟩
end Go.Proofs.YtblnigjmcjpopaaGreat

/- The two voices as plain functions. -/
namespace Go.Proofs.YtblnigjmcjpopaaGreat
open Go.Fw
set_option linter.unusedVariables false
set_option linter.unusedSimpArgs false

/-- the numbers of a voice, from a place on -/
def vo (N : List Int) (i : Nat) : List Int := [N.getD i 0 % 4096, N.getD (i + 1) 0 % 16, N.getD (i + 2) 0 % 256, N.getD (i + 3) 0 % 4096, N.getD (i + 4) 0 % 2, N.getD (i + 5) 0 % 16384]
def sndN (N : List Int) : List Int := vo N 0 ++ vo N 6
def passV (k : Int) : List Int → List Int
  | [p, v, r, c, f, w] =>
    [p, if (r > 0 ∧ v > 0) ∧ w + k ≥ r * 64 then v - 1 else v, r, if p > 0 then (if c + k ≥ p then 0 else c + k) else c, if p > 0 ∧ c + k ≥ p then 1 - f else f,
      if r > 0 ∧ v > 0 then (if w + k ≥ r * 64 then 0 else w + k) else w]
  | l => l
def quietV : List Int → Int
  | [p, v, r, c, f, w] => min (if p > 0 then max 1 (p - c) - 1 else 100000) (if r > 0 ∧ v > 0 then max 1 (r * 64 - w) - 1 else 100000)
  | _ => 100000
inductive vOk : List Int → Prop
  | mk {p v r c f w : Int} (hp : 0 ≤ p ∧ p < 4096) (hv : 0 ≤ v ∧ v < 16) (hr : 0 ≤ r ∧ r < 256) (hc : 0 ≤ c ∧ c < 4096) (hf : 0 ≤ f ∧ f < 2) (hw : 0 ≤ w ∧ w < 16384) : vOk [p, v, r, c, f, w]
theorem vo_ok (N : List Int) (i : Nat) : vOk (vo N i) := ⟨by omega, by omega, by omega, by omega, by omega, by omega⟩
theorem vOk.len {l : List Int} (h : vOk l) : l.length = 6 := by cases h; rfl
theorem vo_idem {l : List Int} (h : vOk l) : vo l 0 = l := by
  cases h with
  | mk hp hv hr hc hf hw =>
    rename_i p v r c f w
    show [p % 4096, v % 16, r % 256, c % 4096, f % 2, w % 16384] = _
    rw [Int.emod_eq_of_lt hp.1 hp.2, Int.emod_eq_of_lt hv.1 hv.2, Int.emod_eq_of_lt hr.1 hr.2, Int.emod_eq_of_lt hc.1 hc.2, Int.emod_eq_of_lt hf.1 hf.2, Int.emod_eq_of_lt hw.1 hw.2]
theorem vo_add {a b : List Int} (h : a.length = 6) : vo (a ++ b) 6 = vo b 0 := by
  have e : ∀ j, (a ++ b).getD (6 + j) 0 = b.getD j 0 := by
    intro j
    simp only [List.getD_eq_getElem?_getD]
    rw [List.getElem?_append_right (by omega)]
    have : 6 + j - a.length = j := by omega
    rw [this]
  unfold vo
  rw [show (a ++ b).getD 6 0 = b.getD 0 0 from e 0, show (a ++ b).getD (6 + 1) 0 = b.getD 1 0 from e 1, show (a ++ b).getD (6 + 2) 0 = b.getD 2 0 from e 2, show (a ++ b).getD (6 + 3) 0 = b.getD 3 0 from e 3,
    show (a ++ b).getD (6 + 4) 0 = b.getD 4 0 from e 4, show (a ++ b).getD (6 + 5) 0 = b.getD 5 0 from e 5]
theorem vo_fst {a b : List Int} (h : vOk a) : vo (a ++ b) 0 = vo a 0 := by cases h; rfl
theorem snd_idem {a b : List Int} (ha : vOk a) (hb : vOk b) : sndN (a ++ b) = a ++ b := by
  rw [sndN, vo_fst ha, vo_add ha.len, vo_idem ha, vo_idem hb]
theorem passV_ok {l : List Int} (h : vOk l) {k : Int} (hk : 0 ≤ k) : vOk (passV k l) := by
  cases h with
  | mk hp hv hr hc hf hw =>
    refine ⟨hp, ?_, hr, ?_, ?_, ?_⟩
    · split <;> omega
    · split
      · split <;> omega
      · exact hc
    · split <;> omega
    · split
      · split <;> omega
      · exact hw
theorem passV_len (k : Int) (l : List Int) : (passV k l).length = l.length := by
  unfold passV; split <;> rfl
theorem l6 {a b c d e f a' b' c' d' e' f' : Int} (h1 : a = a') (h2 : b = b') (h3 : c = c') (h4 : d = d') (h5 : e = e') (h6 : f = f') : [a, b, c, d, e, f] = [a', b', c', d', e', f'] := by rw [h1, h2, h3, h4, h5, h6]
/-- some quiet cycles, then one more -/
theorem passV_add {l : List Int} (h : vOk l) {j : Int} (hj : 0 < j) (hq : j ≤ quietV l) : passV 1 (passV j l) = passV (j + 1) l := by
  cases h with
  | mk hp hv hr hc hf hw =>
    rename_i p v r c f w
    have e1 : quietV [p, v, r, c, f, w] = min (if p > 0 then max 1 (p - c) - 1 else 100000) (if r > 0 ∧ v > 0 then max 1 (r * 64 - w) - 1 else 100000) := rfl
    rw [e1] at hq
    have q1 : p > 0 → ¬ c + j ≥ p := fun h => by rw [if_pos h] at hq; omega
    have q2 : r > 0 ∧ v > 0 → ¬ w + j ≥ r * 64 := fun h => by rw [if_pos h] at hq; omega
    have e2 : passV j [p, v, r, c, f, w] = [p, v, r, if p > 0 then c + j else c, f, if r > 0 ∧ v > 0 then w + j else w] := by
      refine l6 rfl ?_ rfl ?_ ?_ ?_
      · exact if_neg fun h => q2 h.1 h.2
      · by_cases h : p > 0
        · rw [if_pos h, if_pos h, if_neg (q1 h)]
        · rw [if_neg h, if_neg h]
      · exact if_neg fun h => q1 h.1 h.2
      · by_cases h : r > 0 ∧ v > 0
        · rw [if_pos h, if_pos h, if_neg (q2 h)]
        · rw [if_neg h, if_neg h]
    rw [e2]
    by_cases g1 : p > 0
    · rw [if_pos g1]
      by_cases g2 : r > 0 ∧ v > 0
      · rw [if_pos g2]
        refine l6 rfl ?_ rfl ?_ ?_ ?_ <;> simp only [g1, g2, and_self, true_and, if_true, Int.add_assoc]
      · rw [if_neg g2]
        refine l6 rfl ?_ rfl ?_ ?_ ?_ <;> simp only [g1, g2, false_and, true_and, if_true, if_false, Int.add_assoc]
    · rw [if_neg g1]
      by_cases g2 : r > 0 ∧ v > 0
      · rw [if_pos g2]
        refine l6 rfl ?_ rfl ?_ ?_ ?_ <;> simp only [g1, g2, and_self, false_and, true_and, if_true, if_false, Int.add_assoc]
      · rw [if_neg g2]
        refine l6 rfl ?_ rfl ?_ ?_ ?_ <;> simp only [g1, g2, false_and, if_false]
theorem passV_idle {l : List Int} (h : vOk l) (hq : quietV l = 100000) (k : Int) : passV k l = l := by
  cases h with
  | mk hp hv hr hc hf hw =>
    rename_i p v r c f w
    have e1 : quietV [p, v, r, c, f, w] = min (if p > 0 then max 1 (p - c) - 1 else 100000) (if r > 0 ∧ v > 0 then max 1 (r * 64 - w) - 1 else 100000) := rfl
    rw [e1] at hq
    have g1 : ¬ p > 0 := fun h => by rw [if_pos h] at hq; omega
    have g2 : ¬ (r > 0 ∧ v > 0) := fun h => by rw [if_pos h] at hq; omega
    refine l6 rfl ?_ rfl ?_ ?_ ?_
    · exact if_neg fun h => g2 h.1
    · exact if_neg g1
    · exact if_neg fun h => g1 h.1
    · exact if_neg g2
theorem quietV_in {l : List Int} (h : vOk l) : 0 ≤ quietV l ∧ quietV l ≤ 100000 := by
  cases h with
  | mk hp hv hr hc hf hw =>
    rename_i p v r c f w
    have e1 : quietV [p, v, r, c, f, w] = min (if p > 0 then max 1 (p - c) - 1 else 100000) (if r > 0 ∧ v > 0 then max 1 (r * 64 - w) - 1 else 100000) := rfl
    rw [e1]
    by_cases g1 : p > 0 <;> by_cases g2 : r > 0 ∧ v > 0 <;> simp only [g1, g2, and_self, if_true, if_false] <;> omega
theorem iterP_ok {l : List Int} (h : vOk l) : ∀ n, vOk (iterF (passV 1) n l)
  | 0 => h
  | n + 1 => by rw [iterF_succ]; exact passV_ok (iterP_ok h n) (by decide)
theorem iterP_run {l : List Int} (h : vOk l) : ∀ n : Nat, 0 < n → (n : Int) ≤ quietV l + 1 → iterF (passV 1) n l = passV n l
  | 1, _, _ => rfl
  | n + 2, _, hq => by
    rw [iterF_succ, iterP_run h (n + 1) (by omega) (by omega), passV_add h (by omega) (by omega)]; rfl
theorem iterP_idle {l : List Int} (h : vOk l) (hq : quietV l = 100000) (n : Nat) : iterF (passV 1) n l = l := iterF_fix (passV_idle h hq 1) n
theorem voice_end {a : List Int} (h : vOk a) {r : Int} (hr : 0 < r) (hq : quietV a ≥ r ∨ quietV a = 100000) : passV r a = iterF (passV 1) r.toNat a := by
  rcases hq with hq | hq
  · rw [iterP_run h r.toNat (by omega) (by omega)]
    have e : ((r.toNat : Nat) : Int) = r := by omega
    rw [e]
  · rw [iterP_idle h hq, passV_idle h hq]
theorem voice_step {a : List Int} (h : vOk a) {r : Int} (hq : quietV a < r) : iterF (passV 1) (r - (quietV a + 1)).toNat (passV (quietV a + 1) a) = iterF (passV 1) r.toNat a := by
  have hq0 := quietV_in h
  have e : r.toNat = (quietV a + 1).toNat + (r - (quietV a + 1)).toNat := by omega
  rw [e, iterF_add, iterP_run h (quietV a + 1).toNat (by omega) (by omega)]
  have e2 : (((quietV a + 1).toNat : Nat) : Int) = quietV a + 1 := by omega
  rw [e2]
theorem fst6 {a b : List Int} (h : a.length = 6) : ((a ++ b).drop 0).take 6 = a := List.take_left' h
theorem snd6 {a b : List Int} (h : a.length = 6) (h2 : b.length = 6) : ((a ++ b).drop 6).take 6 = b := by rw [List.drop_left' h]; exact List.take_of_length_le (by omega)
theorem heap2 {x : Blk} {l l' : List Int} (h : l = l') : [some x, some (Blk.arr (.int .i64) l)] = [some x, some (Blk.arr (.int .i64) l')] := by rw [h]
/-- a voice within the state -/
def passL (off : Nat) (l : List Int) (k : Int) : List Int := l.take off ++ (passV k ((l.drop off).take 6) ++ l.drop (off + 6))
theorem passL_fst {a b : List Int} (h : a.length = 6) (k : Int) : passL 0 (a ++ b) k = passV k a ++ b := by
  unfold passL
  simp [← h]
theorem passL_snd {a b : List Int} (h : a.length = 6) (h2 : b.length = 6) (k : Int) : passL 6 (a ++ b) k = a ++ passV k b := by
  unfold passL
  rw [List.take_left' h, List.drop_left' h, List.take_of_length_le (by omega), List.drop_eq_nil_of_le (by simp [h, h2]), List.append_nil]
def tickW (l : List Int) : List Int := passV 1 (l.take 6) ++ passV 1 (l.drop 6)
theorem tickW_app {a b : List Int} (h : a.length = 6) : tickW (a ++ b) = passV 1 a ++ passV 1 b := by unfold tickW; simp [← h]
theorem iterW {a b : List Int} (ha : vOk a) (hb : vOk b) : ∀ n, iterF tickW n (a ++ b) = iterF (passV 1) n a ++ iterF (passV 1) n b
  | 0 => rfl
  | n + 1 => by rw [iterF_succ, iterW ha hb n, tickW_app (iterP_ok ha n).len, iterF_succ, iterF_succ]

end Go.Proofs.YtblnigjmcjpopaaGreat

/- The chip with two voices: its state, the passing of cycles. -/
namespace Go.Proofs.YtblnigjmcjpopaaGreat
open Go.Fw
set_option linter.unusedVariables false
set_option linter.unusedSimpArgs false
set_option maxRecDepth 100000

def ofitS : PSpec := ⟨[gD], fun (d, _) => (none, .cell (.own 0), [.arr (.int .i64) (sndN d.1)])⟩
set_option maxHeartbeats 4000000 in
theorem ofit_ok : GoodF Tryz.prog 95 ofitS.spec := by
  have hT := tab_ok (fs := [(75, lowM.spec)]) tree_ok
  have hP : SpecsOk Tryz.prog (tab tree [(75, lowM.spec)]) := specs_cons lowM_ok specs_nil
  refine ofitS.good (fn := Tryz.f95) hT hP Tryz.func95 (by kernel_rfl) rfl fun (d : Dv) _ => ?_
  obtain ⟨N, M⟩ := d
  repeat' first
    | (refine Go.mk ?_; conv => whnf)
    | refine Need.go ?_ ?_
    | refine NilG.go (fun _ => ?_) (fun _ => ?_)
    | refine Br.dec (fun _ => ?_) (fun _ => ?_)
    | refine Br.go (fun _ => ?_) (fun _ => ?_)
    | refine loop_unroll 7 ?_
    | refine round_go hT hP ?_
  all_goals first
    | exact of_decide_eq_true rfl
    | exact .mk [] [1] _ rfl rfl rfl rfl rfl rfl rfl

def onewS : PSpec := ⟨[], fun _ => (none, devR, [.arr (.int .i64) (List.replicate 12 0)])⟩
theorem onew_ok : GoodF Tryz.prog 81 onewS.spec := by
  have hT := tab_ok (fs := []) tree_ok
  have hP : SpecsOk Tryz.prog (tab tree []) := specs_nil
  refine onewS.good (fn := Tryz.f81) hT hP Tryz.func81 (by kernel_rfl) rfl fun _ => ?_
  repeat' first
    | (refine Go.mk ?_; conv => whnf)
    | refine Need.go ?_ ?_
    | refine NilG.go (fun _ => ?_) (fun _ => ?_)
    | refine Br.dec (fun _ => ?_) (fun _ => ?_)
    | refine Br.go (fun _ => ?_) (fun _ => ?_)
    | refine draw_go hT hP mixed ?_
    | refine round_go hT hP ?_
  all_goals first
    | exact of_decide_eq_true rfl
    | exact .mk [] [1] _ rfl rfl rfl rfl rfl rfl rfl

def quietS : PSpec := ⟨[gl], fun (l, _) => (some (vOk l), I (quietV l), [])⟩
theorem quiet_ok : GoodF Tryz.prog 111 quietS.spec := by
  have hT := tab_ok (fs := []) tree_ok
  have hP : SpecsOk Tryz.prog (tab tree []) := specs_nil
  refine quietS.good (fn := Tryz.f111) hT hP Tryz.func111 (by kernel_rfl) rfl fun (l : List Int) hq => ?_
  have hp : vOk l := hq _ rfl
  cases hp with
  | mk hp hv hr hc hf hw =>
  rename_i p v r c f w
  have e1 : quietV [p, v, r, c, f, w] = min (if p > 0 then max 1 (p - c) - 1 else 100000) (if r > 0 ∧ v > 0 then max 1 (r * 64 - w) - 1 else 100000) := rfl
  repeat' first
    | (refine Go.mk ?_; conv => whnf)
    | refine Need.go ?_ ?_
    | refine NilG.go (fun _ => ?_) (fun _ => ?_)
    | refine Br.dec (fun _ => ?_) (fun _ => ?_)
    | refine Br.go (fun _ => ?_) (fun _ => ?_)
    | refine draw_go hT hP mixed ?_
    | refine round_go hT hP ?_
  all_goals first
    | exact of_decide_eq_true rfl
    | skip
  all_goals
    refine .mk [] [] _ rfl rfl rfl rfl rfl rfl (imm_int ?_)
    show _ = quietV [p, v, r, c, f, w]
    rw [e1]
    have ew1 : IntKind.i64.wrap (p - c) = p - c := w64 (by omega) (by omega)
    have ew2 : IntKind.i64.wrap (r * 64) = r * 64 := w64 (by omega) (by omega)
    have ew3 : IntKind.i64.wrap (r * 64 - w) = r * 64 - w := w64 (by omega) (by omega)
    have ew4 : IntKind.i64.wrap (max 1 (p - c) - 1) = max 1 (p - c) - 1 := w64 (by omega) (by omega)
    have ew5 : IntKind.i64.wrap (max 1 (r * 64 - w) - 1) = max 1 (r * 64 - w) - 1 := w64 (by omega) (by omega)
    clear hT hP hq
    simp [ew1, ew2, ew3, ew4, ew5, imax_eq, imin_eq] at *
    first | omega | (simp [*]; done) | (simp [*]; omega)

def passS : WSpec := ⟨Nat × List Int × Int, fun x => [.c (.sub 0 x.1 6), .c (iv .i64 x.2.2)], fun x => [.arr (.int .i64) x.2.1],
  fun a b => (match a, b with | [.c (.sub 0 off 6), .c (.imm (.int .i64 k))], [.arr (.int .i64) l] => some (off, l, k) | _, _ => none),
  fun x => (some ((x.1 = 0 ∨ x.1 = 6) ∧ (∃ a b, x.2.1 = a ++ b ∧ vOk a ∧ vOk b) ∧ 0 ≤ x.2.2 ∧ x.2.2 ≤ 10000000), .tup [], [some (.arr (.int .i64) (passL x.1 x.2.1 x.2.2))], [])⟩
theorem pass_ok : GoodF Tryz.prog 122 passS.spec := by
  have hT := tab_ok (fs := []) tree_ok
  have hP : SpecsOk Tryz.prog (tab tree []) := specs_nil
  refine passS.good (fn := Tryz.f122) hT hP Tryz.func122 (by kernel_rfl) rfl ?_ fun ((off, l, k) : Nat × List Int × Int) hq => ?_
  · intro a b x h
    simp only [passS] at h
    split at h
    · injection h with h; subst h; exact ⟨rfl, rfl⟩
    · cases h
  obtain ⟨ho, ⟨a, b, hl, ha, hb⟩, hk0, hk1⟩ : (off = 0 ∨ off = 6) ∧ (∃ a b, l = a ++ b ∧ vOk a ∧ vOk b) ∧ 0 ≤ k ∧ k ≤ 10000000 := hq _ rfl
  rcases ho with rfl | rfl
  · cases ha with
    | mk hp hv hr hc hf hw =>
    cases hb with
    | mk hp' hv' hr' hc' hf' hw' =>
    obtain rfl := hl
    rename_i p v r c f w p' v' r' c' f' w'
    repeat' first
      | (refine Go.mk ?_; conv => whnf)
      | refine Need.go ?_ ?_
      | refine NilG.go (fun _ => ?_) (fun _ => ?_)
      | refine Br.dec (fun _ => ?_) (fun _ => ?_)
      | refine Br.go (fun _ => ?_) (fun _ => ?_)
      | refine draw_go hT hP mixed ?_
      | refine round_go hT hP ?_
    all_goals first
      | exact of_decide_eq_true rfl
      | skip
    all_goals
      refine .mk [] [0] _ rfl rfl rfl rfl rfl (blk_eqs ?_) rfl
      have ew1 : IntKind.i64.wrap (c + k) = c + k := w64 (by omega) (by omega)
      have ew2 : IntKind.i64.wrap (1 - f) = 1 - f := w64 (by omega) (by omega)
      have ew3 : IntKind.i64.wrap (w + k) = w + k := w64 (by omega) (by omega)
      have ew4 : IntKind.i64.wrap (r * 64) = r * 64 := w64 (by omega) (by omega)
      have ew5 : IntKind.i64.wrap (v - 1) = v - 1 := w64 (by omega) (by omega)
      clear hT hP hq
      simp [ew1, ew2, ew3, ew4, ew5] at *
      try simp [passL, passV, *]
    all_goals (repeat' first | refine And.intro ?_ ?_ | intro _)
    all_goals first | omega | (exfalso; omega)
  · cases ha with
    | mk hp hv hr hc hf hw =>
    cases hb with
    | mk hp' hv' hr' hc' hf' hw' =>
    obtain rfl := hl
    rename_i p' v' r' c' f' w' p v r c f w
    repeat' first
      | (refine Go.mk ?_; conv => whnf)
      | refine Need.go ?_ ?_
      | refine NilG.go (fun _ => ?_) (fun _ => ?_)
      | refine Br.dec (fun _ => ?_) (fun _ => ?_)
      | refine Br.go (fun _ => ?_) (fun _ => ?_)
      | refine draw_go hT hP mixed ?_
      | refine round_go hT hP ?_
    all_goals first
      | exact of_decide_eq_true rfl
      | skip
    all_goals
      refine .mk [] [0] _ rfl rfl rfl rfl rfl (blk_eqs ?_) rfl
      have ew1 : IntKind.i64.wrap (c + k) = c + k := w64 (by omega) (by omega)
      have ew2 : IntKind.i64.wrap (1 - f) = 1 - f := w64 (by omega) (by omega)
      have ew3 : IntKind.i64.wrap (w + k) = w + k := w64 (by omega) (by omega)
      have ew4 : IntKind.i64.wrap (r * 64) = r * 64 := w64 (by omega) (by omega)
      have ew5 : IntKind.i64.wrap (v - 1) = v - 1 := w64 (by omega) (by omega)
      clear hT hP hq
      simp [ew1, ew2, ew3, ew4, ew5] at *
      try simp [passL, passV, *]
    all_goals (repeat' first | refine And.intro ?_ ?_ | intro _)
    all_goals first | omega | (exfalso; omega)

end Go.Proofs.YtblnigjmcjpopaaGreat

/- The chip with two voices: many cycles, registers. -/
namespace Go.Proofs.YtblnigjmcjpopaaGreat
open Go.Fw
set_option linter.unusedVariables false
set_option linter.unusedSimpArgs false
set_option maxRecDepth 100000

def oskipS : PSpec := ⟨[gD, gi], fun (d, k, _) => (some (k ≤ 10000000), devR, [.arr (.int .i64) (iterF tickW k.toNat (sndN d.1))])⟩
theorem oskip_ok : GoodF Tryz.prog 108 oskipS.spec := by
  have hT := tab_ok (fs := [(95, ofitS.spec), (111, quietS.spec), (122, passS.spec)]) tree_ok
  have hP : SpecsOk Tryz.prog (tab tree [(95, ofitS.spec), (111, quietS.spec), (122, passS.spec)]) := specs_cons ofit_ok (specs_cons quiet_ok (specs_cons pass_ok specs_nil))
  refine oskipS.good (fn := Tryz.f108) hT hP Tryz.func108 (by kernel_rfl) rfl fun (d : Dv) (k : Int) hp => ?_
  obtain ⟨N, M⟩ := d
  have hk : k ≤ 10000000 := hp _ rfl
  have eK : imin k 10000000 = k := by rw [imin_eq]; omega
  obtain ⟨A, hA⟩ : ∃ A, A = iterF (passV 1) (imin k 10000000).toNat (vo N 0) := ⟨_, rfl⟩
  have hAo : vOk A := by rw [hA]; exact iterP_ok (vo_ok N 0) _
  repeat' first
    | (refine Go.mk ?_; conv => whnf)
    | refine Need.go ?_ ?_
    | refine NilG.go (fun _ => ?_) (fun _ => ?_)
    | refine Br.dec (fun _ => ?_) (fun _ => ?_)
    | refine Br.go (fun _ => ?_) (fun _ => ?_)
    | refine draw_go hT hP mixed ?_
    | refine round_go hT hP ?_
  refine loop_unroll 3 ?_
  repeat' first
    | (refine Go.mk ?_; conv => whnf)
    | refine Need.go ?_ ?_
    | refine NilG.go (fun _ => ?_) (fun _ => ?_)
    | refine Br.dec (fun _ => ?_) (fun _ => ?_)
    | refine Br.go (fun _ => ?_) (fun _ => ?_)
    | refine draw_go hT hP mixed ?_
    | refine round_go hT hP ?_
  all_goals first
    | exact of_decide_eq_true rfl
    | skip
  refine loop_go hT hP (X := Int × List Int) (fun (r, a) => St.mk [.dead, I (imin k 10000000), .dead, .dead, .cell (.ptr 0 0), .cell (.own 1), .dead, .cell (.sub 1 0 6), I r, .dead, .dead, .dead, .dead, .dead, I 0, .dead, .dead, .dead, .dead, .dead, .dead, .dead, .dead, .dead, .dead, .dead, .dead, .dead, .dead, .dead, .dead, .dead, .dead, .dead, .dead, .dead, .dead, .dead, .dead, .dead, .dead, .dead, .dead, .dead, .dead, .dead, .dead, .dead, .dead, .dead] [some (.var [.imm (.slice none 0 0), .imm (.slice none 0 0)]), some (.arr (.int .i64) (a ++ vo N 6))])
    (fun (r, a) => r ≤ imin k 10000000 ∧ vOk a ∧ iterF (passV 1) r.toNat a = iterF (passV 1) (imin k 10000000).toNat (vo N 0)) (fun (r, _) => r.toNat) (imin k 10000000, vo N 0) (Le.mk [] [1, 2] rfl rfl ?_ ?_) ?_ fun (r, a) hi => ?_
  rotate_right
  repeat' first
    | (refine Go.mk ?_; conv => whnf)
    | refine Need.go ?_ ?_
    | refine NilG.go (fun _ => ?_) (fun _ => ?_)
    | refine Br.dec (fun _ => ?_) (fun _ => ?_)
    | refine Br.go (fun _ => ?_) (fun _ => ?_)
    | refine draw_go hT hP mixed ?_
    | refine round_go hT hP ?_
  rotate_right 3
  · exact rfl
  · repeat' first | exact trivial | exact ⟨rfl, rfl⟩ | refine And.intro ?_ ?_
  · exact ⟨Int.le_refl _, vo_ok N 0, rfl⟩
  all_goals
    obtain ⟨hr, ha, hit⟩ := hi
    have hrk : r ≤ 10000000 := by rw [eK] at hr; omega
    have hq0 := quietV_in ha
    have e6 : (((a ++ vo N 6).drop 0).take 6) = a := fst6 ha.len
    have ep : ∀ q, passL 0 (a ++ vo N 6) q = passV q a ++ vo N 6 := fun q => passL_fst ha.len q
    have el : (a ++ vo N 6).length = 12 := by rw [List.length_append, ha.len]; rfl
    have ew : IntKind.i64.wrap (quietV a + 1) = quietV a + 1 := w64 (by omega) (by omega)
    have ew2 : r > 0 → IntKind.i64.wrap (r - (quietV a + 1)) = r - (quietV a + 1) := fun h => w64 (by omega) (by omega)
  all_goals first
    | exact of_decide_eq_true rfl
    | (show vOk (((a ++ vo N 6).drop 0).take 6)
       rw [e6]; exact ha)
    | skip
  · rename_i h0 h1
    have h0 : r > 0 := h0
    exact ⟨.inl rfl, ⟨a, vo N 6, rfl, ha, vo_ok N 6⟩, (by omega : 0 ≤ r), hrk⟩
  · show (0 : Int) ≤ 6 ∧ (6 : Int) ≤ 12 ∧ (12 : Int) ≤ ((passL 0 (a ++ vo N 6) r).length : Nat)
    rw [ep, List.length_append, passV_len, ha.len, show (vo N 6).length = 6 from rfl]; decide
  · rename_i h0 h1
    have h0 : r > 0 := h0
    have ee : passL 0 (a ++ vo N 6) r = A ++ vo N 6 := by rw [ep, voice_end ha h0 (.inl (by have h1 : quietV (((a ++ vo N 6).drop 0).take 6) ≥ r := h1; rw [e6] at h1; exact h1)), hit, hA]
    refine loop_go hT hP (X := Int × List Int) (fun (r, a) => St.mk [.dead, I (imin k 10000000), .dead, .dead, .cell (.ptr 0 0), .cell (.own 1), .dead, .cell (.sub 1 6 6), I r, .dead, .dead, .dead, .dead, .dead, I (IntKind.i64.wrap (0 + 1)), .dead, .dead, .dead, .dead, .dead, .dead, .dead, .dead, .dead, .dead, .dead, .dead, .dead, .dead, .dead, .dead, .dead, .dead, .dead, .dead, .dead, .dead, .dead, .dead, .dead, .dead, .dead, .dead, .dead, .dead, .dead, .dead, .dead, .dead, .dead] [some (.var [.imm (.slice none 0 0), .imm (.slice none 0 0)]), some (.arr (.int .i64) (A ++ a))])
      (fun (r, a) => r ≤ imin k 10000000 ∧ vOk a ∧ iterF (passV 1) r.toNat a = iterF (passV 1) (imin k 10000000).toNat (vo N 6)) (fun (r, _) => r.toNat) (imin k 10000000, vo N 6) (Le.mk [] [0, 1] rfl rfl ?_ ?_) ?_ fun (r, a) hi => ?_
    rotate_right
    repeat' first
      | (refine Go.mk ?_; conv => whnf)
      | refine Need.go ?_ ?_
      | refine NilG.go (fun _ => ?_) (fun _ => ?_)
      | refine Br.dec (fun _ => ?_) (fun _ => ?_)
      | refine Br.go (fun _ => ?_) (fun _ => ?_)
      | refine draw_go hT hP mixed ?_
      | refine round_go hT hP ?_
    rotate_right 3
    · exact heap2 ee
    · repeat' first | exact trivial | exact ⟨rfl, rfl⟩ | refine And.intro ?_ ?_
    · exact ⟨Int.le_refl _, vo_ok N 6, rfl⟩
    all_goals
      obtain ⟨hr, ha, hit⟩ := hi
      have hrk : r ≤ 10000000 := by rw [eK] at hr; omega
      have hq0 := quietV_in ha
      have e6 : (((A ++ a).drop 6).take 6) = a := snd6 hAo.len ha.len
      have ep : ∀ q, passL 6 (A ++ a) q = A ++ passV q a := fun q => passL_snd hAo.len ha.len q
      have el : (A ++ a).length = 12 := by rw [List.length_append, hAo.len, ha.len]
      have ew : IntKind.i64.wrap (quietV a + 1) = quietV a + 1 := w64 (by omega) (by omega)
      have ew2 : r > 0 → IntKind.i64.wrap (r - (quietV a + 1)) = r - (quietV a + 1) := fun h => w64 (by omega) (by omega)
    all_goals first
      | exact of_decide_eq_true rfl
      | (show vOk (((A ++ a).drop 6).take 6)
         rw [e6]; exact ha)
      | skip
    · rename_i h0 h1
      have h0 : r > 0 := h0
      exact ⟨.inr rfl, ⟨A, a, rfl, hAo, ha⟩, (by omega : 0 ≤ r), hrk⟩
    · rename_i h0 h1
      have h0 : r > 0 := h0
      refine .mk [] [1] _ rfl rfl rfl rfl rfl (blk_eqs (l := passL 6 (A ++ a) r) ?_) rfl
      show _ = iterF tickW k.toNat (sndN N)
      rw [ep, voice_end ha h0 (.inl (by have h1 : quietV (((A ++ a).drop 6).take 6) ≥ r := h1; rw [e6] at h1; exact h1)), hit, sndN, iterW (vo_ok N 0) (vo_ok N 6), hA, eK]
    · rename_i h0 h1 h2
      have h0 : r > 0 := h0
      exact ⟨.inr rfl, ⟨A, a, rfl, hAo, ha⟩, (by omega : 0 ≤ r), hrk⟩
    · rename_i h0 h1 h2
      have h0 : r > 0 := h0
      refine .mk [] [1] _ rfl rfl rfl rfl rfl (blk_eqs (l := passL 6 (A ++ a) r) ?_) rfl
      show _ = iterF tickW k.toNat (sndN N)
      rw [ep, voice_end ha h0 (.inr (by have h2 : quietV (((A ++ a).drop 6).take 6) = 100000 := h2; rw [e6] at h2; exact h2)), hit, sndN, iterW (vo_ok N 0) (vo_ok N 6), hA, eK]
    · rename_i h0 h1 h2
      have h0 : r > 0 := h0
      exact ⟨.inr rfl, ⟨A, a, rfl, hAo, ha⟩, (by rw [e6, ew]; omega : 0 ≤ IntKind.i64.wrap (quietV (((A ++ a).drop 6).take 6) + 1)), (by rw [e6, ew]; omega : IntKind.i64.wrap (quietV (((A ++ a).drop 6).take 6) + 1) ≤ 10000000)⟩
    · rename_i h0 h1 h2
      have h0 : r > 0 := h0
      have h1 : ¬ quietV (((A ++ a).drop 6).take 6) ≥ r := h1
      rw [e6] at h1
      have er : IntKind.i64.wrap (r - IntKind.i64.wrap (quietV (((A ++ a).drop 6).take 6) + 1)) = r - (quietV a + 1) := by rw [e6, ew, ew2 h0]
      have eb : passL 6 (A ++ a) (IntKind.i64.wrap (quietV (((A ++ a).drop 6).take 6) + 1)) = A ++ passV (quietV a + 1) a := by rw [e6, ew, ep]
      apply Exists.intro (_, passV (quietV a + 1) a)
      refine And.intro ?_ (And.intro ?_ (Le.mk [] [0, 1] rfl rfl (heap2 eb) ?ht))
      case ht => repeat' first | exact trivial | exact ⟨rfl, rfl⟩ | refine And.intro ?_ ?_
      · show IntKind.i64.wrap (r - IntKind.i64.wrap (quietV (((A ++ a).drop 6).take 6) + 1)) ≤ imin k 10000000 ∧ vOk (passV (quietV a + 1) a) ∧ iterF (passV 1) (IntKind.i64.wrap (r - IntKind.i64.wrap (quietV (((A ++ a).drop 6).take 6) + 1))).toNat (passV (quietV a + 1) a) = _
        rw [er, voice_step ha (by omega)]
        exact ⟨by omega, passV_ok ha (by omega), hit⟩
      · show (IntKind.i64.wrap (r - IntKind.i64.wrap (quietV (((A ++ a).drop 6).take 6) + 1))).toNat < r.toNat
        rw [er]; omega
    · rename_i h0
      have h0 : ¬ r > 0 := h0
      refine .mk [] [1] _ rfl rfl rfl rfl rfl (blk_eqs (l := A ++ a) ?_) rfl
      show _ = iterF tickW k.toNat (sndN N)
      have e0 : r.toNat = 0 := by omega
      rw [e0] at hit
      have hit : a = _ := hit
      rw [hit, sndN, iterW (vo_ok N 0) (vo_ok N 6), hA, eK]
  · rename_i h0 h1 h2
    have h0 : r > 0 := h0
    exact ⟨.inl rfl, ⟨a, vo N 6, rfl, ha, vo_ok N 6⟩, (by omega : 0 ≤ r), hrk⟩
  · show (0 : Int) ≤ 6 ∧ (6 : Int) ≤ 12 ∧ (12 : Int) ≤ ((passL 0 (a ++ vo N 6) r).length : Nat)
    rw [ep, List.length_append, passV_len, ha.len, show (vo N 6).length = 6 from rfl]; decide
  · rename_i h0 h1 h2
    have h0 : r > 0 := h0
    have ee : passL 0 (a ++ vo N 6) r = A ++ vo N 6 := by rw [ep, voice_end ha h0 (.inr (by have h2 : quietV (((a ++ vo N 6).drop 0).take 6) = 100000 := h2; rw [e6] at h2; exact h2)), hit, hA]
    refine loop_go hT hP (X := Int × List Int) (fun (r, a) => St.mk [.dead, I (imin k 10000000), .dead, .dead, .cell (.ptr 0 0), .cell (.own 1), .dead, .cell (.sub 1 6 6), I r, .dead, .dead, .dead, .dead, .dead, I (IntKind.i64.wrap (0 + 1)), .dead, .dead, .dead, .dead, .dead, .dead, .dead, .dead, .dead, .dead, .dead, .dead, .dead, .dead, .dead, .dead, .dead, .dead, .dead, .dead, .dead, .dead, .dead, .dead, .dead, .dead, .dead, .dead, .dead, .dead, .dead, .dead, .dead, .dead, .dead] [some (.var [.imm (.slice none 0 0), .imm (.slice none 0 0)]), some (.arr (.int .i64) (A ++ a))])
      (fun (r, a) => r ≤ imin k 10000000 ∧ vOk a ∧ iterF (passV 1) r.toNat a = iterF (passV 1) (imin k 10000000).toNat (vo N 6)) (fun (r, _) => r.toNat) (imin k 10000000, vo N 6) (Le.mk [] [0, 1] rfl rfl ?_ ?_) ?_ fun (r, a) hi => ?_
    rotate_right
    repeat' first
      | (refine Go.mk ?_; conv => whnf)
      | refine Need.go ?_ ?_
      | refine NilG.go (fun _ => ?_) (fun _ => ?_)
      | refine Br.dec (fun _ => ?_) (fun _ => ?_)
      | refine Br.go (fun _ => ?_) (fun _ => ?_)
      | refine draw_go hT hP mixed ?_
      | refine round_go hT hP ?_
    rotate_right 3
    · exact heap2 ee
    · repeat' first | exact trivial | exact ⟨rfl, rfl⟩ | refine And.intro ?_ ?_
    · exact ⟨Int.le_refl _, vo_ok N 6, rfl⟩
    all_goals
      obtain ⟨hr, ha, hit⟩ := hi
      have hrk : r ≤ 10000000 := by rw [eK] at hr; omega
      have hq0 := quietV_in ha
      have e6 : (((A ++ a).drop 6).take 6) = a := snd6 hAo.len ha.len
      have ep : ∀ q, passL 6 (A ++ a) q = A ++ passV q a := fun q => passL_snd hAo.len ha.len q
      have el : (A ++ a).length = 12 := by rw [List.length_append, hAo.len, ha.len]
      have ew : IntKind.i64.wrap (quietV a + 1) = quietV a + 1 := w64 (by omega) (by omega)
      have ew2 : r > 0 → IntKind.i64.wrap (r - (quietV a + 1)) = r - (quietV a + 1) := fun h => w64 (by omega) (by omega)
    all_goals first
      | exact of_decide_eq_true rfl
      | (show vOk (((A ++ a).drop 6).take 6)
         rw [e6]; exact ha)
      | skip
    · rename_i h0 h1
      have h0 : r > 0 := h0
      exact ⟨.inr rfl, ⟨A, a, rfl, hAo, ha⟩, (by omega : 0 ≤ r), hrk⟩
    · rename_i h0 h1
      have h0 : r > 0 := h0
      refine .mk [] [1] _ rfl rfl rfl rfl rfl (blk_eqs (l := passL 6 (A ++ a) r) ?_) rfl
      show _ = iterF tickW k.toNat (sndN N)
      rw [ep, voice_end ha h0 (.inl (by have h1 : quietV (((A ++ a).drop 6).take 6) ≥ r := h1; rw [e6] at h1; exact h1)), hit, sndN, iterW (vo_ok N 0) (vo_ok N 6), hA, eK]
    · rename_i h0 h1 h2
      have h0 : r > 0 := h0
      exact ⟨.inr rfl, ⟨A, a, rfl, hAo, ha⟩, (by omega : 0 ≤ r), hrk⟩
    · rename_i h0 h1 h2
      have h0 : r > 0 := h0
      refine .mk [] [1] _ rfl rfl rfl rfl rfl (blk_eqs (l := passL 6 (A ++ a) r) ?_) rfl
      show _ = iterF tickW k.toNat (sndN N)
      rw [ep, voice_end ha h0 (.inr (by have h2 : quietV (((A ++ a).drop 6).take 6) = 100000 := h2; rw [e6] at h2; exact h2)), hit, sndN, iterW (vo_ok N 0) (vo_ok N 6), hA, eK]
    · rename_i h0 h1 h2
      have h0 : r > 0 := h0
      exact ⟨.inr rfl, ⟨A, a, rfl, hAo, ha⟩, (by rw [e6, ew]; omega : 0 ≤ IntKind.i64.wrap (quietV (((A ++ a).drop 6).take 6) + 1)), (by rw [e6, ew]; omega : IntKind.i64.wrap (quietV (((A ++ a).drop 6).take 6) + 1) ≤ 10000000)⟩
    · rename_i h0 h1 h2
      have h0 : r > 0 := h0
      have h1 : ¬ quietV (((A ++ a).drop 6).take 6) ≥ r := h1
      rw [e6] at h1
      have er : IntKind.i64.wrap (r - IntKind.i64.wrap (quietV (((A ++ a).drop 6).take 6) + 1)) = r - (quietV a + 1) := by rw [e6, ew, ew2 h0]
      have eb : passL 6 (A ++ a) (IntKind.i64.wrap (quietV (((A ++ a).drop 6).take 6) + 1)) = A ++ passV (quietV a + 1) a := by rw [e6, ew, ep]
      apply Exists.intro (_, passV (quietV a + 1) a)
      refine And.intro ?_ (And.intro ?_ (Le.mk [] [0, 1] rfl rfl (heap2 eb) ?ht))
      case ht => repeat' first | exact trivial | exact ⟨rfl, rfl⟩ | refine And.intro ?_ ?_
      · show IntKind.i64.wrap (r - IntKind.i64.wrap (quietV (((A ++ a).drop 6).take 6) + 1)) ≤ imin k 10000000 ∧ vOk (passV (quietV a + 1) a) ∧ iterF (passV 1) (IntKind.i64.wrap (r - IntKind.i64.wrap (quietV (((A ++ a).drop 6).take 6) + 1))).toNat (passV (quietV a + 1) a) = _
        rw [er, voice_step ha (by omega)]
        exact ⟨by omega, passV_ok ha (by omega), hit⟩
      · show (IntKind.i64.wrap (r - IntKind.i64.wrap (quietV (((A ++ a).drop 6).take 6) + 1))).toNat < r.toNat
        rw [er]; omega
    · rename_i h0
      have h0 : ¬ r > 0 := h0
      refine .mk [] [1] _ rfl rfl rfl rfl rfl (blk_eqs (l := A ++ a) ?_) rfl
      show _ = iterF tickW k.toNat (sndN N)
      have e0 : r.toNat = 0 := by omega
      rw [e0] at hit
      have hit : a = _ := hit
      rw [hit, sndN, iterW (vo_ok N 0) (vo_ok N 6), hA, eK]
  · rename_i h0 h1 h2
    have h0 : r > 0 := h0
    exact ⟨.inl rfl, ⟨a, vo N 6, rfl, ha, vo_ok N 6⟩, (by rw [e6, ew]; omega : 0 ≤ IntKind.i64.wrap (quietV (((a ++ vo N 6).drop 0).take 6) + 1)), (by rw [e6, ew]; omega : IntKind.i64.wrap (quietV (((a ++ vo N 6).drop 0).take 6) + 1) ≤ 10000000)⟩
  · rename_i h0 h1 h2
    have h0 : r > 0 := h0
    have h1 : ¬ quietV (((a ++ vo N 6).drop 0).take 6) ≥ r := h1
    rw [e6] at h1
    have er : IntKind.i64.wrap (r - IntKind.i64.wrap (quietV (((a ++ vo N 6).drop 0).take 6) + 1)) = r - (quietV a + 1) := by rw [e6, ew, ew2 h0]
    have eb : passL 0 (a ++ vo N 6) (IntKind.i64.wrap (quietV (((a ++ vo N 6).drop 0).take 6) + 1)) = passV (quietV a + 1) a ++ vo N 6 := by rw [e6, ew, ep]
    apply Exists.intro (_, passV (quietV a + 1) a)
    refine And.intro ?_ (And.intro ?_ (Le.mk [] [0, 1] rfl rfl (heap2 eb) ?ht))
    case ht => repeat' first | exact trivial | exact ⟨rfl, rfl⟩ | refine And.intro ?_ ?_
    · show IntKind.i64.wrap (r - IntKind.i64.wrap (quietV (((a ++ vo N 6).drop 0).take 6) + 1)) ≤ imin k 10000000 ∧ vOk (passV (quietV a + 1) a) ∧ iterF (passV 1) (IntKind.i64.wrap (r - IntKind.i64.wrap (quietV (((a ++ vo N 6).drop 0).take 6) + 1))).toNat (passV (quietV a + 1) a) = _
      rw [er, voice_step ha (by omega)]
      exact ⟨by omega, passV_ok ha (by omega), hit⟩
    · show (IntKind.i64.wrap (r - IntKind.i64.wrap (quietV (((a ++ vo N 6).drop 0).take 6) + 1))).toNat < r.toNat
      rw [er]; omega
  · show (0 : Int) ≤ 6 ∧ (6 : Int) ≤ 12 ∧ (12 : Int) ≤ ((a ++ vo N 6).length : Nat)
    rw [el]; decide
  · rename_i h0
    have h0 : ¬ r > 0 := h0
    have ee : a ++ vo N 6 = A ++ vo N 6 := by
      have e0 : r.toNat = 0 := by omega
      rw [e0] at hit
      rw [hA, ← hit]; rfl
    refine loop_go hT hP (X := Int × List Int) (fun (r, a) => St.mk [.dead, I (imin k 10000000), .dead, .dead, .cell (.ptr 0 0), .cell (.own 1), .dead, .cell (.sub 1 6 6), I r, .dead, .dead, .dead, .dead, .dead, I (IntKind.i64.wrap (0 + 1)), .dead, .dead, .dead, .dead, .dead, .dead, .dead, .dead, .dead, .dead, .dead, .dead, .dead, .dead, .dead, .dead, .dead, .dead, .dead, .dead, .dead, .dead, .dead, .dead, .dead, .dead, .dead, .dead, .dead, .dead, .dead, .dead, .dead, .dead, .dead] [some (.var [.imm (.slice none 0 0), .imm (.slice none 0 0)]), some (.arr (.int .i64) (A ++ a))])
      (fun (r, a) => r ≤ imin k 10000000 ∧ vOk a ∧ iterF (passV 1) r.toNat a = iterF (passV 1) (imin k 10000000).toNat (vo N 6)) (fun (r, _) => r.toNat) (imin k 10000000, vo N 6) (Le.mk [] [0, 1] rfl rfl ?_ ?_) ?_ fun (r, a) hi => ?_
    rotate_right
    repeat' first
      | (refine Go.mk ?_; conv => whnf)
      | refine Need.go ?_ ?_
      | refine NilG.go (fun _ => ?_) (fun _ => ?_)
      | refine Br.dec (fun _ => ?_) (fun _ => ?_)
      | refine Br.go (fun _ => ?_) (fun _ => ?_)
      | refine draw_go hT hP mixed ?_
      | refine round_go hT hP ?_
    rotate_right 3
    · exact heap2 ee
    · repeat' first | exact trivial | exact ⟨rfl, rfl⟩ | refine And.intro ?_ ?_
    · exact ⟨Int.le_refl _, vo_ok N 6, rfl⟩
    all_goals
      obtain ⟨hr, ha, hit⟩ := hi
      have hrk : r ≤ 10000000 := by rw [eK] at hr; omega
      have hq0 := quietV_in ha
      have e6 : (((A ++ a).drop 6).take 6) = a := snd6 hAo.len ha.len
      have ep : ∀ q, passL 6 (A ++ a) q = A ++ passV q a := fun q => passL_snd hAo.len ha.len q
      have el : (A ++ a).length = 12 := by rw [List.length_append, hAo.len, ha.len]
      have ew : IntKind.i64.wrap (quietV a + 1) = quietV a + 1 := w64 (by omega) (by omega)
      have ew2 : r > 0 → IntKind.i64.wrap (r - (quietV a + 1)) = r - (quietV a + 1) := fun h => w64 (by omega) (by omega)
    all_goals first
      | exact of_decide_eq_true rfl
      | (show vOk (((A ++ a).drop 6).take 6)
         rw [e6]; exact ha)
      | skip
    · rename_i h0 h1
      have h0 : r > 0 := h0
      exact ⟨.inr rfl, ⟨A, a, rfl, hAo, ha⟩, (by omega : 0 ≤ r), hrk⟩
    · rename_i h0 h1
      have h0 : r > 0 := h0
      refine .mk [] [1] _ rfl rfl rfl rfl rfl (blk_eqs (l := passL 6 (A ++ a) r) ?_) rfl
      show _ = iterF tickW k.toNat (sndN N)
      rw [ep, voice_end ha h0 (.inl (by have h1 : quietV (((A ++ a).drop 6).take 6) ≥ r := h1; rw [e6] at h1; exact h1)), hit, sndN, iterW (vo_ok N 0) (vo_ok N 6), hA, eK]
    · rename_i h0 h1 h2
      have h0 : r > 0 := h0
      exact ⟨.inr rfl, ⟨A, a, rfl, hAo, ha⟩, (by omega : 0 ≤ r), hrk⟩
    · rename_i h0 h1 h2
      have h0 : r > 0 := h0
      refine .mk [] [1] _ rfl rfl rfl rfl rfl (blk_eqs (l := passL 6 (A ++ a) r) ?_) rfl
      show _ = iterF tickW k.toNat (sndN N)
      rw [ep, voice_end ha h0 (.inr (by have h2 : quietV (((A ++ a).drop 6).take 6) = 100000 := h2; rw [e6] at h2; exact h2)), hit, sndN, iterW (vo_ok N 0) (vo_ok N 6), hA, eK]
    · rename_i h0 h1 h2
      have h0 : r > 0 := h0
      exact ⟨.inr rfl, ⟨A, a, rfl, hAo, ha⟩, (by rw [e6, ew]; omega : 0 ≤ IntKind.i64.wrap (quietV (((A ++ a).drop 6).take 6) + 1)), (by rw [e6, ew]; omega : IntKind.i64.wrap (quietV (((A ++ a).drop 6).take 6) + 1) ≤ 10000000)⟩
    · rename_i h0 h1 h2
      have h0 : r > 0 := h0
      have h1 : ¬ quietV (((A ++ a).drop 6).take 6) ≥ r := h1
      rw [e6] at h1
      have er : IntKind.i64.wrap (r - IntKind.i64.wrap (quietV (((A ++ a).drop 6).take 6) + 1)) = r - (quietV a + 1) := by rw [e6, ew, ew2 h0]
      have eb : passL 6 (A ++ a) (IntKind.i64.wrap (quietV (((A ++ a).drop 6).take 6) + 1)) = A ++ passV (quietV a + 1) a := by rw [e6, ew, ep]
      apply Exists.intro (_, passV (quietV a + 1) a)
      refine And.intro ?_ (And.intro ?_ (Le.mk [] [0, 1] rfl rfl (heap2 eb) ?ht))
      case ht => repeat' first | exact trivial | exact ⟨rfl, rfl⟩ | refine And.intro ?_ ?_
      · show IntKind.i64.wrap (r - IntKind.i64.wrap (quietV (((A ++ a).drop 6).take 6) + 1)) ≤ imin k 10000000 ∧ vOk (passV (quietV a + 1) a) ∧ iterF (passV 1) (IntKind.i64.wrap (r - IntKind.i64.wrap (quietV (((A ++ a).drop 6).take 6) + 1))).toNat (passV (quietV a + 1) a) = _
        rw [er, voice_step ha (by omega)]
        exact ⟨by omega, passV_ok ha (by omega), hit⟩
      · show (IntKind.i64.wrap (r - IntKind.i64.wrap (quietV (((A ++ a).drop 6).take 6) + 1))).toNat < r.toNat
        rw [er]; omega
    · rename_i h0
      have h0 : ¬ r > 0 := h0
      refine .mk [] [1] _ rfl rfl rfl rfl rfl (blk_eqs (l := A ++ a) ?_) rfl
      show _ = iterF tickW k.toNat (sndN N)
      have e0 : r.toNat = 0 := by omega
      rw [e0] at hit
      have hit : a = _ := hit
      rw [hit, sndN, iterW (vo_ok N 0) (vo_ok N 6), hA, eK]

end Go.Proofs.YtblnigjmcjpopaaGreat

/- The chip with two voices: registers. -/
namespace Go.Proofs.YtblnigjmcjpopaaGreat
open Go.Fw
set_option linter.unusedVariables false
set_option linter.unusedSimpArgs false
set_option maxRecDepth 100000

def otickS : PSpec := ⟨[gD], fun (d, _) => (none, devR, [.arr (.int .i64) (tickW (sndN d.1))])⟩
theorem oR (N : List Int) : (0 ≤ N.getD 0 0 % 4096 ∧ N.getD 0 0 % 4096 < 4096) ∧ (0 ≤ N.getD 1 0 % 16 ∧ N.getD 1 0 % 16 < 16) ∧ (0 ≤ N.getD 4 0 % 2 ∧ N.getD 4 0 % 2 < 2) ∧ (0 ≤ N.getD 6 0 % 4096 ∧ N.getD 6 0 % 4096 < 4096) ∧ (0 ≤ N.getD 7 0 % 16 ∧ N.getD 7 0 % 16 < 16) ∧ (0 ≤ N.getD 10 0 % 2 ∧ N.getD 10 0 % 2 < 2) := by omega
theorem mul_small {a b : Int} (h1 : 0 ≤ a ∧ a < 16) (h2 : 0 ≤ b ∧ b < 2) : 0 ≤ a * b ∧ a * b < 16 := by
  have : b = 0 ∨ b = 1 := by omega
  rcases this with rfl | rfl <;> omega
def ooutF (N : List Int) : Int := N.getD 1 0 % 16 * (N.getD 4 0 % 2) + N.getD 7 0 % 16 * (N.getD 10 0 % 2)
def ooutS : PSpec := ⟨[gD], fun (d, _) => (none, I (ooutF d.1), [])⟩
theorem oout_wrap (N : List Int) : IntKind.i64.wrap (IntKind.i64.wrap (N.getD 1 0 % 16 * (N.getD 4 0 % 2)) + IntKind.i64.wrap (N.getD 7 0 % 16 * (N.getD 10 0 % 2))) = ooutF N := by
  obtain ⟨h0, h1, h2, h3, h4, h5⟩ := oR N
  have m1 := mul_small h1 h2
  have m2 := mul_small h4 h5
  rw [w64 (x := N.getD 1 0 % 16 * (N.getD 4 0 % 2)) (by omega) (by omega), w64 (x := N.getD 7 0 % 16 * (N.getD 10 0 % 2)) (by omega) (by omega), w64 (by omega) (by omega)]; rfl
theorem oout_ok : GoodF Tryz.prog 60 ooutS.spec := by
  have hT := tab_ok (fs := [(95, ofitS.spec)]) tree_ok
  have hP : SpecsOk Tryz.prog (tab tree [(95, ofitS.spec)]) := specs_cons ofit_ok specs_nil
  refine ooutS.good (fn := Tryz.f60) hT hP Tryz.func60 (by kernel_rfl) rfl fun (d : Dv) _ => ?_
  obtain ⟨N, M⟩ := d
  repeat' first
    | (refine Go.mk ?_; conv => whnf)
    | refine Need.go ?_ ?_
    | refine NilG.go (fun _ => ?_) (fun _ => ?_)
    | refine Br.dec (fun _ => ?_) (fun _ => ?_)
    | refine Br.go (fun _ => ?_) (fun _ => ?_)
    | refine draw_go hT hP mixed ?_
    | refine round_go hT hP ?_
  all_goals first
    | exact of_decide_eq_true rfl
    | (refine .mk [] [] _ rfl rfl rfl rfl rfl rfl (imm_int ?_)
       exact oout_wrap N)
    | skip

def onextF (N : List Int) : Int := min (quietV (vo N 0)) (quietV (vo N 6))
def onextS : PSpec := ⟨[gD], fun (d, _) => (none, I (onextF d.1), [])⟩
theorem onext_ok : GoodF Tryz.prog 66 onextS.spec := by
  have hT := tab_ok (fs := [(95, ofitS.spec), (111, quietS.spec)]) tree_ok
  have hP : SpecsOk Tryz.prog (tab tree [(95, ofitS.spec), (111, quietS.spec)]) := specs_cons ofit_ok (specs_cons quiet_ok specs_nil)
  refine onextS.good (fn := Tryz.f66) hT hP Tryz.func66 (by kernel_rfl) rfl fun (d : Dv) _ => ?_
  obtain ⟨N, M⟩ := d
  repeat' first
    | (refine Go.mk ?_; conv => whnf)
    | refine Need.go ?_ ?_
    | refine NilG.go (fun _ => ?_) (fun _ => ?_)
    | refine Br.dec (fun _ => ?_) (fun _ => ?_)
    | refine Br.go (fun _ => ?_) (fun _ => ?_)
    | refine draw_go hT hP mixed ?_
    | refine round_go hT hP ?_
  all_goals first
    | exact of_decide_eq_true rfl
    | exact vo_ok N 0
    | exact vo_ok N 6
    | (refine .mk [] [] _ rfl rfl rfl rfl rfl rfl (imm_int ?_)
       show imin (quietV (vo N 0)) (quietV (vo N 6)) = onextF N
       rw [imin_eq]; rfl)
    | skip

def voiceLoS : WSpec := ⟨List Int × Int, fun x => [.c (.own 0), I1 x.2], fun x => [.arr (.int .i64) x.1], fun a b => (match a, b with | [.c (.own 0), .c (.imm (.int .i64 k))], [.arr (.int .i64) n] => some (n, k) | _, _ => none),
  fun x => (some ((0 ≤ x.2 ∧ x.2 < 4) ∧ List.length x.1 = 12), .cell (.sub 0 0 6), [some (.arr (.int .i64) x.1)], [])⟩
theorem voiceLo_ok : GoodF Tryz.prog 96 voiceLoS.spec := by
  have hT := tab_ok (fs := []) tree_ok
  have hP : SpecsOk Tryz.prog (tab tree []) := specs_nil
  refine voiceLoS.good (fn := Tryz.f96) hT hP Tryz.func96 (by kernel_rfl) rfl ?_ fun ((l, a) : List Int × Int) hq => ?_
  · intro a b x h
    simp only [voiceLoS] at h
    split at h
    · injection h with h; subst h; exact ⟨rfl, rfl⟩
    · cases h
  obtain ⟨hp, hl⟩ : (0 ≤ a ∧ a < 4) ∧ l.length = 12 := hq _ rfl
  have ha : a = 0 ∨ a = 1 ∨ a = 2 ∨ a = 3 := by omega
  rcases ha with rfl | rfl | rfl | rfl
  all_goals
    repeat' first
      | (refine Go.mk ?_; conv => whnf)
      | refine Need.go ?_ ?_
      | refine NilG.go (fun _ => ?_) (fun _ => ?_)
      | refine Br.dec (fun _ => ?_) (fun _ => ?_)
      | refine Br.go (fun _ => ?_) (fun _ => ?_)
      | refine draw_go hT hP mixed ?_
      | refine round_go hT hP ?_
    all_goals first
      | exact of_decide_eq_true rfl
      | (exfalso; rename_i h; revert h; decide)
      | (show (0 : Int) ≤ 0 ∧ (0 : Int) ≤ 6 ∧ (6 : Int) ≤ (l.length : Nat)
         rw [hl]; decide)
      | exact .mk [] [0] _ rfl rfl rfl rfl rfl rfl rfl
      | skip
def voiceHiS : WSpec := ⟨List Int × Int, fun x => [.c (.own 0), I1 x.2], fun x => [.arr (.int .i64) x.1], fun a b => (match a, b with | [.c (.own 0), .c (.imm (.int .i64 k))], [.arr (.int .i64) n] => some (n, k) | _, _ => none),
  fun x => (some ((4 ≤ x.2 ∧ x.2 < 8) ∧ List.length x.1 = 12), .cell (.sub 0 6 6), [some (.arr (.int .i64) x.1)], [])⟩
theorem voiceHi_ok : GoodF Tryz.prog 96 voiceHiS.spec := by
  have hT := tab_ok (fs := []) tree_ok
  have hP : SpecsOk Tryz.prog (tab tree []) := specs_nil
  refine voiceHiS.good (fn := Tryz.f96) hT hP Tryz.func96 (by kernel_rfl) rfl ?_ fun ((l, a) : List Int × Int) hq => ?_
  · intro a b x h
    simp only [voiceHiS] at h
    split at h
    · injection h with h; subst h; exact ⟨rfl, rfl⟩
    · cases h
  obtain ⟨hp, hl⟩ : (4 ≤ a ∧ a < 8) ∧ l.length = 12 := hq _ rfl
  have ha : a = 4 ∨ a = 5 ∨ a = 6 ∨ a = 7 := by omega
  rcases ha with rfl | rfl | rfl | rfl
  all_goals
    repeat' first
      | (refine Go.mk ?_; conv => whnf)
      | refine Need.go ?_ ?_
      | refine NilG.go (fun _ => ?_) (fun _ => ?_)
      | refine Br.dec (fun _ => ?_) (fun _ => ?_)
      | refine Br.go (fun _ => ?_) (fun _ => ?_)
      | refine draw_go hT hP mixed ?_
      | refine round_go hT hP ?_
    all_goals first
      | exact of_decide_eq_true rfl
      | (exfalso; rename_i h; revert h; decide)
      | (show (0 : Int) ≤ 6 ∧ (6 : Int) ≤ 12 ∧ (12 : Int) ≤ (l.length : Nat)
         rw [hl]; decide)
      | exact .mk [] [0] _ rfl rfl rfl rfl rfl rfl rfl
      | skip
def voiceNoS : WSpec := ⟨List Int × Int, fun x => [.c (.own 0), I1 x.2], fun x => [.arr (.int .i64) x.1], fun a b => (match a, b with | [.c (.own 0), .c (.imm (.int .i64 k))], [.arr (.int .i64) n] => some (n, k) | _, _ => none),
  fun x => (some (x.2 < 0 ∨ x.2 ≥ 8), .cell (.imm (.slice none 0 0)), [some (.arr (.int .i64) x.1)], [])⟩
theorem voiceNo_ok : GoodF Tryz.prog 96 voiceNoS.spec := by
  have hT := tab_ok (fs := []) tree_ok
  have hP : SpecsOk Tryz.prog (tab tree []) := specs_nil
  refine voiceNoS.good (fn := Tryz.f96) hT hP Tryz.func96 (by kernel_rfl) rfl ?_ fun ((l, a) : List Int × Int) hq => ?_
  · intro a b x h
    simp only [voiceNoS] at h
    split at h
    · injection h with h; subst h; exact ⟨rfl, rfl⟩
    · cases h
  have hp : a < 0 ∨ a ≥ 8 := hq _ rfl
  repeat' first
    | (refine Go.mk ?_; conv => whnf)
    | refine Need.go ?_ ?_
    | refine NilG.go (fun _ => ?_) (fun _ => ?_)
    | refine Br.dec (fun _ => ?_) (fun _ => ?_)
    | refine Br.go (fun _ => ?_) (fun _ => ?_)
    | refine draw_go hT hP mixed ?_
    | refine round_go hT hP ?_
  all_goals first
    | exact .mk [] [0] _ rfl rfl rfl rfl rfl rfl rfl
    | (exfalso; dsimp only at *; omega)
    | skip

def orF (N : List Int) (a : Int) : Int := pickF [N.getD 0 0 % 4096 % 256, N.getD 0 0 % 4096 / 256, N.getD 1 0 % 16, N.getD 2 0 % 256, N.getD 6 0 % 4096 % 256, N.getD 6 0 % 4096 / 256, N.getD 7 0 % 16, N.getD 8 0 % 256] a
theorem get_lo {n : Int} : n / 2 ^ (0 : Int).toNat % 2 ^ (8 : Int).toNat = n % 256 := by
  show n / 1 % 256 = n % 256
  rw [Int.ediv_one]
theorem get_hi {n : Int} (h : 0 ≤ n ∧ n < 4096) : n / 2 ^ (8 : Int).toNat % 2 ^ (4 : Int).toNat = n / 256 := by
  show n / 256 % 16 = n / 256
  omega
def oreadLoS : PSpec := ⟨[gD, gi], fun (d, a, _) => (some (0 ≤ a ∧ a < 4), .tup [.agg [.own 0, .imm (.slice none 0 0)], I1 (orF d.1 a)], [.arr (.int .i64) (sndN d.1)])⟩
theorem oreadLo_ok : GoodF Tryz.prog 34 oreadLoS.spec := by
  have hT := tab_ok (fs := [(95, ofitS.spec), (96, voiceLoS.spec), (89, getM.spec)]) tree_ok
  have hP : SpecsOk Tryz.prog (tab tree [(95, ofitS.spec), (96, voiceLoS.spec), (89, getM.spec)]) := specs_cons ofit_ok (specs_cons voiceLo_ok (specs_cons getM_ok specs_nil))
  refine oreadLoS.good (fn := Tryz.f34) hT hP Tryz.func34 (by kernel_rfl) rfl fun (d : Dv) (a : Int) hq => ?_
  have hp : 0 ≤ a ∧ a < 4 := hq _ rfl
  obtain ⟨N, M⟩ := d
  obtain ⟨h0, h1, h2, h3, h4, h5⟩ := oR N
  have ha : a = 0 ∨ a = 1 ∨ a = 2 ∨ a = 3 := by omega
  rcases ha with rfl | rfl | rfl | rfl
  all_goals
    repeat' first
      | (refine Go.mk ?_; conv => whnf)
      | refine Need.go ?_ ?_
      | refine NilG.go (fun _ => ?_) (fun _ => ?_)
      | refine Br.dec (fun _ => ?_) (fun _ => ?_)
      | refine Br.go (fun _ => ?_) (fun _ => ?_)
      | refine draw_go hT hP mixed ?_
      | refine round_go hT hP ?_
    all_goals first
      | exact of_decide_eq_true rfl
      | exact ⟨of_decide_eq_true rfl, rfl⟩
      | (exfalso; rename_i h; exact absurd (show (6 : Nat) = 0 from h) (by decide))
      | (show 0 ≤ N.getD 0 0 % 4096 ∧ N.getD 0 0 % 4096 < 4611686018427387904 ∧ _
         exact ⟨by omega, by omega, by decide, by decide, by decide⟩)
      | (refine .mk [] [2] _ rfl rfl rfl rfl rfl rfl (tup_reads ?_)
         first | exact get_lo | exact get_hi h0 | exact rfl)
      | skip
def oreadHiS : PSpec := ⟨[gD, gi], fun (d, a, _) => (some (4 ≤ a ∧ a < 8), .tup [.agg [.own 0, .imm (.slice none 0 0)], I1 (orF d.1 a)], [.arr (.int .i64) (sndN d.1)])⟩
theorem oreadHi_ok : GoodF Tryz.prog 34 oreadHiS.spec := by
  have hT := tab_ok (fs := [(95, ofitS.spec), (96, voiceHiS.spec), (89, getM.spec)]) tree_ok
  have hP : SpecsOk Tryz.prog (tab tree [(95, ofitS.spec), (96, voiceHiS.spec), (89, getM.spec)]) := specs_cons ofit_ok (specs_cons voiceHi_ok (specs_cons getM_ok specs_nil))
  refine oreadHiS.good (fn := Tryz.f34) hT hP Tryz.func34 (by kernel_rfl) rfl fun (d : Dv) (a : Int) hq => ?_
  have hp : 4 ≤ a ∧ a < 8 := hq _ rfl
  obtain ⟨N, M⟩ := d
  obtain ⟨h0, h1, h2, h3, h4, h5⟩ := oR N
  have ha : a = 4 ∨ a = 5 ∨ a = 6 ∨ a = 7 := by omega
  rcases ha with rfl | rfl | rfl | rfl
  all_goals
    repeat' first
      | (refine Go.mk ?_; conv => whnf)
      | refine Need.go ?_ ?_
      | refine NilG.go (fun _ => ?_) (fun _ => ?_)
      | refine Br.dec (fun _ => ?_) (fun _ => ?_)
      | refine Br.go (fun _ => ?_) (fun _ => ?_)
      | refine draw_go hT hP mixed ?_
      | refine round_go hT hP ?_
    all_goals first
      | exact of_decide_eq_true rfl
      | exact ⟨of_decide_eq_true rfl, rfl⟩
      | (exfalso; rename_i h; exact absurd (show (6 : Nat) = 0 from h) (by decide))
      | (show 0 ≤ N.getD 6 0 % 4096 ∧ N.getD 6 0 % 4096 < 4611686018427387904 ∧ _
         exact ⟨by omega, by omega, by decide, by decide, by decide⟩)
      | (refine .mk [] [2] _ rfl rfl rfl rfl rfl rfl (tup_reads ?_)
         first | exact get_lo | exact get_hi h3 | exact rfl)
      | skip
def oreadNoS : PSpec := ⟨[gD, gi], fun (d, a, _) => (some (a < 0 ∨ a ≥ 8), .tup [.agg [.own 0, .imm (.slice none 0 0)], I1 (orF d.1 a)], [.arr (.int .i64) (sndN d.1)])⟩
theorem oreadNo_ok : GoodF Tryz.prog 34 oreadNoS.spec := by
  have hT := tab_ok (fs := [(95, ofitS.spec), (96, voiceNoS.spec), (89, getM.spec)]) tree_ok
  have hP : SpecsOk Tryz.prog (tab tree [(95, ofitS.spec), (96, voiceNoS.spec), (89, getM.spec)]) := specs_cons ofit_ok (specs_cons voiceNo_ok (specs_cons getM_ok specs_nil))
  refine oreadNoS.good (fn := Tryz.f34) hT hP Tryz.func34 (by kernel_rfl) rfl fun (d : Dv) (a : Int) hq => ?_
  have hp : a < 0 ∨ a ≥ 8 := hq _ rfl
  obtain ⟨N, M⟩ := d
  obtain ⟨h0, h1, h2, h3, h4, h5⟩ := oR N
  repeat' first
    | (refine Go.mk ?_; conv => whnf)
    | refine Need.go ?_ ?_
    | refine NilG.go (fun _ => ?_) (fun _ => ?_)
    | refine Br.dec (fun _ => ?_) (fun _ => ?_)
    | refine Br.go (fun _ => ?_) (fun _ => ?_)
    | refine draw_go hT hP mixed ?_
    | refine round_go hT hP ?_
  all_goals first
    | exact hp
    | contradiction
    | (refine .mk [] [2] _ rfl rfl rfl rfl rfl rfl (tup_reads ?_)
       exact (pick_no fun i hi => by
         have : i < 8 := hi
         omega).symm)
    | skip
theorem out8 (a : Int) (h : ¬ (0 ≤ a ∧ a < 8)) : a < 0 ∨ a ≥ 8 := by omega
def oreadS : PSpec := ⟨[gD, gi], fun (d, a, _) => (none, .tup [.agg [.own 0, .imm (.slice none 0 0)], I1 (orF d.1 a)], [.arr (.int .i64) (sndN d.1)])⟩
def oread8S : PSpec := ⟨[gD, gi], fun (d, a, _) => (some (0 ≤ a ∧ a < 8), .tup [.agg [.own 0, .imm (.slice none 0 0)], I1 (orF d.1 a)], [.arr (.int .i64) (sndN d.1)])⟩
theorem oread8_ok : GoodF Tryz.prog 34 oread8S.spec := GoodF.cases oreadLo_ok oreadHi_ok fun (d, a, _) hq => by
  have hp : 0 ≤ a ∧ a < 8 := hq _ rfl
  rcases Int.lt_or_le a 4 with h | h
  · exact .inl ⟨fun q hq => by cases hq; exact ⟨hp.1, h⟩, rfl⟩
  · exact .inr ⟨fun q hq => by cases hq; exact ⟨h, hp.2⟩, rfl⟩
theorem oread_ok : GoodF Tryz.prog 34 oreadS.spec := GoodF.cases oread8_ok oreadNo_ok fun (d, a, _) _ => by
  by_cases h : 0 ≤ a ∧ a < 8
  · exact .inl ⟨fun q hq => by cases hq; exact h, rfl⟩
  · exact .inr ⟨fun q hq => by cases hq; exact out8 a h, rfl⟩

def owF (N : List Int) (a k : Int) : List Int :=
  if a = 0 then (sndN N).set 0 (N.getD 0 0 % 4096 / 256 * 256 + k % 256) else if a = 1 then (sndN N).set 0 (N.getD 0 0 % 4096 % 256 + k % 16 * 256) else if a = 2 then ((sndN N).set 1 (k % 16)).set 5 0 else if a = 3 then (sndN N).set 2 (k % 256)
  else if a = 4 then (sndN N).set 6 (N.getD 6 0 % 4096 / 256 * 256 + k % 256) else if a = 5 then (sndN N).set 6 (N.getD 6 0 % 4096 % 256 + k % 16 * 256) else if a = 6 then ((sndN N).set 7 (k % 16)).set 11 0 else if a = 7 then (sndN N).set 8 (k % 256) else sndN N
theorem put_lo {n k : Int} (h : 0 ≤ n ∧ n < 4096) : 2 ^ (0 : Int).toNat * (2 ^ (8 : Int).toNat * (n / 2 ^ ((0 : Int) + 8).toNat) + k % 2 ^ (8 : Int).toNat) + n % 2 ^ (0 : Int).toNat = n / 256 * 256 + k % 256 := by
  show 1 * (256 * (n / 256) + k % 256) + n % 1 = _
  omega
theorem put_hi {n k : Int} (h : 0 ≤ n ∧ n < 4096) : 2 ^ (8 : Int).toNat * (2 ^ (4 : Int).toNat * (n / 2 ^ ((8 : Int) + 4).toNat) + k % 2 ^ (4 : Int).toNat) + n % 2 ^ (8 : Int).toNat = n % 256 + k % 16 * 256 := by
  show 256 * (16 * (n / 4096) + k % 16) + n % 256 = _
  omega
theorem set_eq {l : List Int} {i : Nat} {x y : Int} (h : x = y) : l.set i x = l.set i y := by rw [h]
def owriteLoS : PSpec := ⟨[gD, gi, gi], fun (d, a, k, _) => (some (0 ≤ a ∧ a < 4), devR, [.arr (.int .i64) (owF d.1 a k)])⟩
theorem owriteLo_ok : GoodF Tryz.prog 47 owriteLoS.spec := by
  have hT := tab_ok (fs := [(95, ofitS.spec), (96, voiceLoS.spec), (102, putM.spec), (75, lowM.spec)]) tree_ok
  have hP : SpecsOk Tryz.prog (tab tree [(95, ofitS.spec), (96, voiceLoS.spec), (102, putM.spec), (75, lowM.spec)]) := specs_cons ofit_ok (specs_cons voiceLo_ok (specs_cons putM_ok (specs_cons lowM_ok specs_nil)))
  refine owriteLoS.good (fn := Tryz.f47) hT hP Tryz.func47 (by kernel_rfl) rfl fun (d : Dv) (a k : Int) hq => ?_
  have hp : 0 ≤ a ∧ a < 4 := hq _ rfl
  obtain ⟨N, M⟩ := d
  obtain ⟨h0, h1, h2, h3, h4, h5⟩ := oR N
  have ha : a = 0 ∨ a = 1 ∨ a = 2 ∨ a = 3 := by omega
  rcases ha with rfl | rfl | rfl | rfl
  all_goals
    repeat' first
      | (refine Go.mk ?_; conv => whnf)
      | refine Need.go ?_ ?_
      | refine NilG.go (fun _ => ?_) (fun _ => ?_)
      | refine Br.dec (fun _ => ?_) (fun _ => ?_)
      | refine Br.go (fun _ => ?_) (fun _ => ?_)
      | refine draw_go hT hP mixed ?_
      | refine round_go hT hP ?_
    all_goals first
      | exact of_decide_eq_true rfl
      | exact ⟨of_decide_eq_true rfl, rfl⟩
      | (exfalso; rename_i h; exact absurd (show (6 : Nat) = 0 from h) (by decide))
      | (show 0 ≤ N.getD 0 0 % 4096 ∧ N.getD 0 0 % 4096 < 4611686018427387904 ∧ _
         exact ⟨by omega, by omega, by decide, by decide, by decide⟩)
      | exact .mk [] [2] _ rfl rfl rfl rfl rfl rfl rfl
      | (refine .mk [] [2] _ rfl rfl rfl rfl rfl (blk_eqs ?_) rfl
         first | exact set_eq (put_lo h0) | exact set_eq (put_hi h0))
      | skip
def owriteHiS : PSpec := ⟨[gD, gi, gi], fun (d, a, k, _) => (some (4 ≤ a ∧ a < 8), devR, [.arr (.int .i64) (owF d.1 a k)])⟩
theorem owriteHi_ok : GoodF Tryz.prog 47 owriteHiS.spec := by
  have hT := tab_ok (fs := [(95, ofitS.spec), (96, voiceHiS.spec), (102, putM.spec), (75, lowM.spec)]) tree_ok
  have hP : SpecsOk Tryz.prog (tab tree [(95, ofitS.spec), (96, voiceHiS.spec), (102, putM.spec), (75, lowM.spec)]) := specs_cons ofit_ok (specs_cons voiceHi_ok (specs_cons putM_ok (specs_cons lowM_ok specs_nil)))
  refine owriteHiS.good (fn := Tryz.f47) hT hP Tryz.func47 (by kernel_rfl) rfl fun (d : Dv) (a k : Int) hq => ?_
  have hp : 4 ≤ a ∧ a < 8 := hq _ rfl
  obtain ⟨N, M⟩ := d
  obtain ⟨h0, h1, h2, h3, h4, h5⟩ := oR N
  have ha : a = 4 ∨ a = 5 ∨ a = 6 ∨ a = 7 := by omega
  rcases ha with rfl | rfl | rfl | rfl
  all_goals
    repeat' first
      | (refine Go.mk ?_; conv => whnf)
      | refine Need.go ?_ ?_
      | refine NilG.go (fun _ => ?_) (fun _ => ?_)
      | refine Br.dec (fun _ => ?_) (fun _ => ?_)
      | refine Br.go (fun _ => ?_) (fun _ => ?_)
      | refine draw_go hT hP mixed ?_
      | refine round_go hT hP ?_
    all_goals first
      | exact of_decide_eq_true rfl
      | exact ⟨of_decide_eq_true rfl, rfl⟩
      | (exfalso; rename_i h; exact absurd (show (6 : Nat) = 0 from h) (by decide))
      | (show 0 ≤ N.getD 6 0 % 4096 ∧ N.getD 6 0 % 4096 < 4611686018427387904 ∧ _
         exact ⟨by omega, by omega, by decide, by decide, by decide⟩)
      | exact .mk [] [2] _ rfl rfl rfl rfl rfl rfl rfl
      | (refine .mk [] [2] _ rfl rfl rfl rfl rfl (blk_eqs ?_) rfl
         first | exact set_eq (put_lo h3) | exact set_eq (put_hi h3))
      | skip
def owriteNoS : PSpec := ⟨[gD, gi, gi], fun (d, a, k, _) => (some (a < 0 ∨ a ≥ 8), devR, [.arr (.int .i64) (owF d.1 a k)])⟩
theorem owriteNo_ok : GoodF Tryz.prog 47 owriteNoS.spec := by
  have hT := tab_ok (fs := [(95, ofitS.spec), (96, voiceNoS.spec), (102, putM.spec), (75, lowM.spec)]) tree_ok
  have hP : SpecsOk Tryz.prog (tab tree [(95, ofitS.spec), (96, voiceNoS.spec), (102, putM.spec), (75, lowM.spec)]) := specs_cons ofit_ok (specs_cons voiceNo_ok (specs_cons putM_ok (specs_cons lowM_ok specs_nil)))
  refine owriteNoS.good (fn := Tryz.f47) hT hP Tryz.func47 (by kernel_rfl) rfl fun (d : Dv) (a k : Int) hq => ?_
  have hp : a < 0 ∨ a ≥ 8 := hq _ rfl
  obtain ⟨N, M⟩ := d
  obtain ⟨h0, h1, h2, h3, h4, h5⟩ := oR N
  repeat' first
    | (refine Go.mk ?_; conv => whnf)
    | refine Need.go ?_ ?_
    | refine NilG.go (fun _ => ?_) (fun _ => ?_)
    | refine Br.dec (fun _ => ?_) (fun _ => ?_)
    | refine Br.go (fun _ => ?_) (fun _ => ?_)
    | refine draw_go hT hP mixed ?_
    | refine round_go hT hP ?_
  all_goals first
    | exact hp
    | contradiction
    | (refine .mk [] [2] _ rfl rfl rfl rfl rfl (blk_eqs (l := sndN N) ?_) rfl
       show _ = owF N a k
       unfold owF
       rw [if_neg (by omega), if_neg (by omega), if_neg (by omega), if_neg (by omega), if_neg (by omega), if_neg (by omega), if_neg (by omega), if_neg (by omega)])
    | skip
def owriteS : PSpec := ⟨[gD, gi, gi], fun (d, a, k, _) => (none, devR, [.arr (.int .i64) (owF d.1 a k)])⟩
def owrite8S : PSpec := ⟨[gD, gi, gi], fun (d, a, k, _) => (some (0 ≤ a ∧ a < 8), devR, [.arr (.int .i64) (owF d.1 a k)])⟩
theorem owrite8_ok : GoodF Tryz.prog 47 owrite8S.spec := GoodF.cases owriteLo_ok owriteHi_ok fun (d, a, k, _) hq => by
  have hp : 0 ≤ a ∧ a < 8 := hq _ rfl
  rcases Int.lt_or_le a 4 with h | h
  · exact .inl ⟨fun q hq => by cases hq; exact ⟨hp.1, h⟩, rfl⟩
  · exact .inr ⟨fun q hq => by cases hq; exact ⟨h, hp.2⟩, rfl⟩
theorem owrite_ok : GoodF Tryz.prog 47 owriteS.spec := GoodF.cases owrite8_ok owriteNo_ok fun (d, a, k, _) _ => by
  by_cases h : 0 ≤ a ∧ a < 8
  · exact .inl ⟨fun q hq => by cases hq; exact h, rfl⟩
  · exact .inr ⟨fun q hq => by cases hq; exact out8 a h, rfl⟩

def soundsS : PSpec := ⟨[], fun _ => (none, .cell (bv true), [])⟩
end Go.Proofs.YtblnigjmcjpopaaGreat

/- The chip with two voices, by the document. -/
namespace Go.Proofs.YtblnigjmcjpopaaGreat
open Go.Fw
set_option linter.unusedVariables false
set_option linter.unusedSimpArgs false
set_option maxRecDepth 100000

def sndC : Cv := (ByteArray.empty, 7, 0, 0, [])
def omods : List Int := [4096, 16, 256, 4096, 2, 16384, 4096, 16, 256, 4096, 2, 16384]
theorem omods_ok : omods.length ≤ 1000 ∧ ∀ m ∈ omods, 0 < m ∧ m ≤ 4611686018427387904 := by decide
def oformedS : PSpec := ⟨[gC, gD], fun (c, d, _) => (some (c.2.1 = 7), devR, [.arr (.int .i64) (sndN d.1)])⟩
theorem oformed_ok : GoodF Tryz.prog 36 oformedS.spec := by
  have hT := tab_ok (fs := [(100, formS.spec)]) tree_ok
  have hP : SpecsOk Tryz.prog (tab tree [(100, formS.spec)]) := specs_cons form_ok specs_nil
  refine oformedS.good (fn := Tryz.f36) hT hP Tryz.func36 (by kernel_rfl) rfl fun (c : Cv) (d : Dv) hp => ?_
  obtain ⟨cn, ck, cb, cs, cd⟩ := c
  obtain rfl : ck = 7 := hp _ rfl
  obtain ⟨N, M⟩ := d
  repeat' first
    | (refine Go.mk ?_; conv => whnf)
    | refine Need.go ?_ ?_
    | refine NilG.go (fun _ => ?_) (fun _ => ?_)
    | refine Br.dec (fun _ => ?_) (fun _ => ?_)
    | refine Br.go (fun _ => ?_) (fun _ => ?_)
    | refine draw_go hT hP mixed ?_
    | refine round_go hT hP ?_
  all_goals first
    | exact rfl
    | exact omods_ok
    | exact of_decide_eq_true rfl
    | skip
  exact .mk [] [5] _ rfl rfl rfl rfl rfl rfl rfl

def ofreshS : PSpec := ⟨[gC], fun (c, _) => (some (c.2.1 = 7), devR, [.arr (.int .i64) (List.replicate 12 0)])⟩
theorem tm {n m : Int} (h : 0 ≤ n) : Int.tmod n m = n % m := Int.tmod_eq_emod_of_nonneg h
theorem td256 {n : Int} (h : 0 ≤ n ∧ n < 4096) : IntKind.i64.wrap (Int.tdiv n 256) = n / 256 := by rw [Int.tdiv_eq_ediv_of_nonneg h.1, w64 (by omega) (by omega)]
def oloadedS : PSpec := ⟨[gC, gD, gi], fun (c, d, a, _) => (some (c.2.1 = 7), .tup [.agg [.own 0, .imm (.slice none 0 0)], I1 (orF d.1 a)], [.arr (.int .i64) (sndN d.1)])⟩
theorem oloaded_ok : GoodF Tryz.prog 7 oloadedS.spec := by
  have hT := tab_ok (fs := [(36, oformedS.spec), (37, pickS.spec)]) tree_ok
  have hP : SpecsOk Tryz.prog (tab tree [(36, oformedS.spec), (37, pickS.spec)]) := specs_cons oformed_ok (specs_cons pick_ok specs_nil)
  refine oloadedS.good (fn := Tryz.f7) hT hP Tryz.func7 (by kernel_rfl) rfl fun (c : Cv) (d : Dv) (a : Int) hp => ?_
  obtain ⟨cn, ck, cb, cs, cd⟩ := c
  obtain rfl : ck = 7 := hp _ rfl
  obtain ⟨N, M⟩ := d
  obtain ⟨h0, h1, h2, h3, h4, h5⟩ := oR N
  repeat' first
    | (refine Go.mk ?_; conv => whnf)
    | refine Need.go ?_ ?_
    | refine NilG.go (fun _ => ?_) (fun _ => ?_)
    | refine Br.dec (fun _ => ?_) (fun _ => ?_)
    | refine Br.go (fun _ => ?_) (fun _ => ?_)
    | refine draw_go hT hP mixed ?_
    | refine round_go hT hP ?_
  all_goals first
    | exact rfl
    | exact omods_ok
    | exact of_decide_eq_true rfl
    | skip
  refine .mk [] [4] _ rfl rfl rfl rfl rfl rfl (tup_reads ?_)
  show pickF [Int.tmod (N.getD 0 0 % 4096) 256, IntKind.i64.wrap (Int.tdiv (N.getD 0 0 % 4096) 256), N.getD 1 0 % 16, N.getD 2 0 % 256, Int.tmod (N.getD 6 0 % 4096) 256, IntKind.i64.wrap (Int.tdiv (N.getD 6 0 % 4096) 256), N.getD 7 0 % 16, N.getD 8 0 % 256] a = orF N a
  rw [tm h0.1, tm h3.1, td256 h0, td256 h3]; rfl

theorem st_lo {n k : Int} (h : 0 ≤ n ∧ n < 4096) : IntKind.i64.wrap (IntKind.i64.wrap (IntKind.i64.wrap (Int.tdiv n 256) * 256) + k % 256) = n / 256 * 256 + k % 256 := by
  rw [td256 h, w64 (x := n / 256 * 256) (by omega) (by omega), w64 (by omega) (by omega)]
theorem st_v {k : Int} : Int.tmod (k % 256) 16 = k % 16 := by rw [tm (by omega)]; omega
theorem st_hi {n k : Int} (h : 0 ≤ n ∧ n < 4096) : IntKind.i64.wrap (Int.tmod n 256 + IntKind.i64.wrap (Int.tmod (k % 256) 16 * 256)) = n % 256 + k % 16 * 256 := by
  rw [tm h.1, st_v, w64 (x := k % 16 * 256) (by omega) (by omega), w64 (by omega) (by omega)]
theorem set2_eq {l : List Int} {i j : Nat} {x y z : Int} (h : x = y) : (l.set i x).set j z = (l.set i y).set j z := by rw [h]
def ostoredS : PSpec := ⟨[gC, gD, gi, gi], fun (c, d, a, k, _) => (some (c.2.1 = 7), devR, [.arr (.int .i64) (owF d.1 a k)])⟩
set_option maxHeartbeats 4000000 in
theorem ostored_ok : GoodF Tryz.prog 10 ostoredS.spec := by
  have hT := tab_ok (fs := [(36, oformedS.spec), (22, modS.spec)]) tree_ok
  have hP : SpecsOk Tryz.prog (tab tree [(36, oformedS.spec), (22, modS.spec)]) := specs_cons oformed_ok (specs_cons mod_ok specs_nil)
  refine ostoredS.good (fn := Tryz.f10) hT hP Tryz.func10 (by kernel_rfl) rfl fun (c : Cv) (d : Dv) (a k : Int) hp => ?_
  obtain ⟨cn, ck, cb, cs, cd⟩ := c
  obtain rfl : ck = 7 := hp _ rfl
  obtain ⟨N, M⟩ := d
  obtain ⟨h0, h1, h2, h3, h4, h5⟩ := oR N
  have ha : a = 0 ∨ a = 1 ∨ a = 2 ∨ a = 3 ∨ a = 4 ∨ a = 5 ∨ a = 6 ∨ a = 7 ∨ a < 0 ∨ a ≥ 8 := by omega
  rcases ha with rfl | rfl | rfl | rfl | rfl | rfl | rfl | rfl | ha | ha
  all_goals
    repeat' first
      | (refine Go.mk ?_; conv => whnf)
      | refine Need.go ?_ ?_
      | refine NilG.go (fun _ => ?_) (fun _ => ?_)
      | refine Br.dec (fun _ => ?_) (fun _ => ?_)
      | refine Br.go (fun _ => ?_) (fun _ => ?_)
      | refine draw_go hT hP mixed ?_
      | refine round_go hT hP ?_
    all_goals first
      | exact rfl
      | exact of_decide_eq_true rfl
      | (exfalso; omega)
      | exact .mk [] [3] _ rfl rfl rfl rfl rfl rfl rfl
      | (refine .mk [] [3] _ rfl rfl rfl rfl rfl (blk_eqs ?_) rfl
         first | exact set_eq (st_lo h0) | exact set_eq (st_lo h3) | exact set_eq (st_hi h0) | exact set_eq (st_hi h3) | exact set2_eq st_v)
      | (refine .mk [] [3] _ rfl rfl rfl rfl rfl (blk_eqs (l := sndN N) ?_) rfl
         show _ = owF N a k
         unfold owF
         rw [if_neg (by omega), if_neg (by omega), if_neg (by omega), if_neg (by omega), if_neg (by omega), if_neg (by omega), if_neg (by omega), if_neg (by omega)])
      | skip

def oshowsS : PSpec := ⟨[gC, gD], fun (c, d, _) => (some (c.2.1 = 7), I (ooutF d.1), [])⟩
theorem oshows_ok : GoodF Tryz.prog 16 oshowsS.spec := by
  have hT := tab_ok (fs := [(36, oformedS.spec)]) tree_ok
  have hP : SpecsOk Tryz.prog (tab tree [(36, oformedS.spec)]) := specs_cons oformed_ok specs_nil
  refine oshowsS.good (fn := Tryz.f16) hT hP Tryz.func16 (by kernel_rfl) rfl fun (c : Cv) (d : Dv) hp => ?_
  obtain ⟨cn, ck, cb, cs, cd⟩ := c
  obtain rfl : ck = 7 := hp _ rfl
  obtain ⟨N, M⟩ := d
  repeat' first
    | (refine Go.mk ?_; conv => whnf)
    | refine Need.go ?_ ?_
    | refine NilG.go (fun _ => ?_) (fun _ => ?_)
    | refine Br.dec (fun _ => ?_) (fun _ => ?_)
    | refine Br.go (fun _ => ?_) (fun _ => ?_)
    | refine draw_go hT hP mixed ?_
    | refine round_go hT hP ?_
  all_goals first
    | exact rfl
    | exact of_decide_eq_true rfl
    | (refine .mk [] [] _ rfl rfl rfl rfl rfl rfl (imm_int ?_)
       show IntKind.i64.wrap (IntKind.i64.wrap (N.getD 4 0 % 2 * (N.getD 1 0 % 16)) + IntKind.i64.wrap (N.getD 10 0 % 2 * (N.getD 7 0 % 16))) = ooutF N
       rw [Int.mul_comm (N.getD 4 0 % 2), Int.mul_comm (N.getD 10 0 % 2)]
       exact oout_wrap N)
    | skip

theorem heap4 {x y z : Blk} {l l' : List Int} (h : l = l') : [some x, some y, some (Blk.arr (.int .i64) l), some z] = [some x, some y, some (Blk.arr (.int .i64) l'), some z] := by rw [h]
def otickedS : PSpec := ⟨[gC, gD], fun (c, d, _) => (some (c.2.1 = 7), devR, [.arr (.int .i64) (tickW (sndN d.1))])⟩
end Go.Proofs.YtblnigjmcjpopaaGreat

/- The chip with two voices, by the document: how long it rests. -/
namespace Go.Proofs.YtblnigjmcjpopaaGreat
open Go.Fw
set_option linter.unusedVariables false
set_option linter.unusedSimpArgs false
set_option maxRecDepth 100000

theorem mul_pos2 {v r : Int} (hv : 0 ≤ v ∧ v < 16) (hr : 0 ≤ r ∧ r < 256) : (0 < v * r) = (0 < r ∧ 0 < v) := by
  apply propext
  constructor
  · intro h
    by_cases h1 : v = 0
    · rw [h1, Int.zero_mul] at h; omega
    · by_cases h2 : r = 0
      · rw [h2, Int.mul_zero] at h; omega
      · omega
  · rintro ⟨h1, h2⟩
    exact Int.mul_pos h2 h1
theorem mul_in2 {v r : Int} (hv : 0 ≤ v ∧ v < 16) (hr : 0 ≤ r ∧ r < 256) : 0 ≤ v * r ∧ v * r < 4096 := by
  refine ⟨Int.mul_nonneg hv.1 hr.1, ?_⟩
  have h1 : v * r ≤ 15 * r := Int.mul_le_mul_of_nonneg_right (by omega) hr.1
  omega
theorem decrec_ite {p : Prop} (a b : Int) (i : Decidable p) : (Decidable.rec (motive := fun _ => Int) (fun _ => a) (fun _ => b) i) = if p then b else a := by cases i <;> simp [*]
theorem quiet_min {p v r c f w : Int} : quietV [p, v, r, c, f, w] = min (if p > 0 then max 1 (p - c) - 1 else 100000) (if r > 0 ∧ v > 0 then max 1 (r * 64 - w) - 1 else 100000) := rfl
def orestsS : PSpec := ⟨[gC, gD], fun (c, d, _) => (some (c.2.1 = 7), I (onextF d.1), [])⟩
set_option maxHeartbeats 8000000 in
theorem orests_ok : GoodF Tryz.prog 18 orestsS.spec := by
  have hT := tab_ok (fs := [(36, oformedS.spec)]) tree_ok
  have hP : SpecsOk Tryz.prog (tab tree [(36, oformedS.spec)]) := specs_cons oformed_ok specs_nil
  refine orestsS.good (fn := Tryz.f18) hT hP Tryz.func18 (by kernel_rfl) rfl fun (c : Cv) (d : Dv) hp => ?_
  obtain ⟨cn, ck, cb, cs, cd⟩ := c
  obtain rfl : ck = 7 := hp _ rfl
  obtain ⟨N, M⟩ := d
  repeat' first
    | (refine Go.mk ?_; conv => whnf)
    | refine Need.go ?_ ?_
    | refine NilG.go (fun _ => ?_) (fun _ => ?_)
    | refine Br.dec (fun _ => ?_) (fun _ => ?_)
    | refine Br.go (fun _ => ?_) (fun _ => ?_)
    | refine draw_go hT hP mixed ?_
    | refine round_go hT hP ?_
  all_goals first
    | exact rfl
    | exact of_decide_eq_true rfl
    | skip
  obtain ⟨A, hA⟩ : ∃ A, A = vo N 0 := ⟨_, rfl⟩
  obtain ⟨B, hB⟩ : ∃ B, B = vo N 6 := ⟨_, rfl⟩
  have oA : vOk A := by rw [hA]; exact vo_ok N 0
  have oB : vOk B := by rw [hB]; exact vo_ok N 6
  refine loop_go hT hP (X := Int × Int) (fun (i, o) => St.mk [.dead, .dead, .dead, .dead, .dead, .dead, I o, .dead, .dead, .dead, .dead, .dead, .dead, .dead, .dead, .dead, .dead, .dead, .dead, .dead, .dead, .dead, .dead, .dead, .dead, .dead, .dead, .dead, .dead, .dead, .dead, .dead, .dead, .dead, .dead, .dead, .dead, .dead, .dead, .dead, .dead, .dead, .dead, .dead, .dead, .dead, .dead, .dead, .dead, .dead, .dead, .dead, .dead, .dead, .dead, .dead, .dead, .dead, .dead, .dead, .dead, .dead, .dead, .dead, .dead, .dead, .dead, .dead, .dead, .dead, .dead, .dead, .dead, .dead, .dead, .dead, .dead, .dead, .dead, .cell (.svar 1 0 2), I 2, I i, .dead, .dead, .dead, .dead, .dead, .dead, .dead, .dead, .dead, .dead, .dead, .dead, .dead, .dead, .dead, .dead, .dead, .dead, .dead, .dead, .dead, .dead, .dead, .dead, .dead, .dead, .dead, .dead, .dead, .dead, .dead, .dead, .dead, .dead, .dead, .dead, .dead, .dead, .dead, .dead, .dead, .dead, .dead, .dead, .dead, .dead, .dead, .dead, .dead, .dead, .dead] [some (.arr (.int .i64) (A ++ B)), some (.var [.sub 0 0 6, .sub 0 6 6])])
    (fun (i, o) => (i = 0 ∧ o = 100000) ∨ (i = 1 ∧ o = quietV A) ∨ (i = 2 ∧ o = min (quietV A) (quietV B))) (fun (i, _) => (2 - i).toNat) (0, 100000) (Le.mk [] [2, 3] rfl rfl ?_ ?_) ?_ fun (i, o) hi => ?_
  · show [some (Blk.arr (.int .i64) (vo N 0 ++ vo N 6)), some (Blk.var [.sub 0 0 6, .sub 0 6 6])] = [some (Blk.arr (.int .i64) (A ++ B)), some (Blk.var [.sub 0 0 6, .sub 0 6 6])]
    rw [hA, hB]
  · repeat' first | exact trivial | exact ⟨rfl, rfl⟩ | refine And.intro ?_ ?_
  · exact .inl ⟨rfl, rfl⟩
  rcases hi with ⟨rfl, ho⟩ | ⟨rfl, ho⟩ | ⟨rfl, ho⟩
  · have hI : ∀ z : Int × Int, z.1 = 1 → z.2 = quietV A → (z.1 = 0 ∧ z.2 = 100000) ∨ (z.1 = 1 ∧ z.2 = quietV A) ∨ (z.1 = 2 ∧ z.2 = min (quietV A) (quietV B)) := by
      intro z h1 h2
      rw [h1, h2]
      exact .inr (.inl ⟨rfl, rfl⟩)
    
    clear hA hB
    cases oA with
    | mk hp hv hr hc hf hw =>
    cases oB with
    | mk hp' hv' hr' hc' hf' hw' =>
    rename_i p v r c f w p' v' r' c' f' w'
    
    
    subst ho
    have e0 := @quiet_min p v r c f w
    repeat' first
      | (refine Go.mk ?_; conv => whnf)
      | refine Need.go ?_ ?_
      | refine NilG.go (fun _ => ?_) (fun _ => ?_)
      | refine Br.dec (fun _ => ?_) (fun _ => ?_)
      | refine Br.go (fun _ => ?_) (fun _ => ?_)
      | refine draw_go hT hP mixed ?_
      | refine round_go hT hP ?_
    all_goals first
      | exact of_decide_eq_true rfl
      | (exfalso; rename_i h; revert h; decide)
      | skip
    all_goals
      apply Exists.intro (_, _)
      refine And.intro ?_ (And.intro ?_ (Le.mk [] [0, 1] rfl rfl ?hh ?ht))
      case hh => exact rfl
      case ht => repeat' first | exact trivial | exact ⟨rfl, rfl⟩ | refine And.intro ?_ ?_
    all_goals first
      | (show (2 - IntKind.i64.wrap (0 + 1)).toNat < (2 - (0 : Int)).toNat
         decide)
      | skip
    all_goals
      refine hI (IntKind.i64.wrap (0 + 1), _) rfl ?_
      have mp := mul_pos2 hv hr
      have mi := mul_in2 hv hr
      have ew1 : IntKind.i64.wrap (p - c) = p - c := w64 (by omega) (by omega)
      have ew2 : IntKind.i64.wrap (p - c - 1) = p - c - 1 := w64 (by omega) (by omega)
      have ew3 : IntKind.i64.wrap (v * r) = v * r := w64 (by omega) (by omega)
      have ew4 : IntKind.i64.wrap (64 * r) = r * 64 := by rw [w64 (by omega) (by omega), Int.mul_comm]
      have ew5 : IntKind.i64.wrap (r * 64 - w) = r * 64 - w := w64 (by omega) (by omega)
      have ew6 : IntKind.i64.wrap (r * 64 - w - 1) = r * 64 - w - 1 := w64 (by omega) (by omega)
      clear hT hP hI mi
      simp [ew1, ew2, ew3, ew4, ew5, ew6, mp, decrec_ite, imax_eq, imin_eq] at *
      first | omega | (simp [*]; done) | (simp [*]; omega) | skip
  · have hI : ∀ z : Int × Int, z.1 = 2 → z.2 = min (quietV A) (quietV B) → (z.1 = 0 ∧ z.2 = 100000) ∨ (z.1 = 1 ∧ z.2 = quietV A) ∨ (z.1 = 2 ∧ z.2 = min (quietV A) (quietV B)) := by
      intro z h1 h2
      rw [h1, h2]
      exact .inr (.inr ⟨rfl, rfl⟩)
    have hq1 := quietV_in oA
    clear hA hB
    cases oA with
    | mk hp hv hr hc hf hw =>
    cases oB with
    | mk hp' hv' hr' hc' hf' hw' =>
    rename_i p' v' r' c' f' w' p v r c f w
    rw [← ho] at hq1
    have e0 := @quiet_min p v r c f w
    repeat' first
      | (refine Go.mk ?_; conv => whnf)
      | refine Need.go ?_ ?_
      | refine NilG.go (fun _ => ?_) (fun _ => ?_)
      | refine Br.dec (fun _ => ?_) (fun _ => ?_)
      | refine Br.go (fun _ => ?_) (fun _ => ?_)
      | refine draw_go hT hP mixed ?_
      | refine round_go hT hP ?_
    all_goals first
      | exact of_decide_eq_true rfl
      | (exfalso; rename_i h; revert h; decide)
      | skip
    all_goals
      apply Exists.intro (_, _)
      refine And.intro ?_ (And.intro ?_ (Le.mk [] [0, 1] rfl rfl ?hh ?ht))
      case hh => exact rfl
      case ht => repeat' first | exact trivial | exact ⟨rfl, rfl⟩ | refine And.intro ?_ ?_
    all_goals first
      | (show (2 - IntKind.i64.wrap (1 + 1)).toNat < (2 - (1 : Int)).toNat
         decide)
      | skip
    all_goals
      refine hI (IntKind.i64.wrap (1 + 1), _) rfl ?_
      rw [← ho]
      clear ho
      have mp := mul_pos2 hv' hr'
      have mi := mul_in2 hv' hr'
      have ew1 : IntKind.i64.wrap (p - c) = p - c := w64 (by omega) (by omega)
      have ew2 : IntKind.i64.wrap (p - c - 1) = p - c - 1 := w64 (by omega) (by omega)
      have ew3 : IntKind.i64.wrap (v * r) = v * r := w64 (by omega) (by omega)
      have ew4 : IntKind.i64.wrap (64 * r) = r * 64 := by rw [w64 (by omega) (by omega), Int.mul_comm]
      have ew5 : IntKind.i64.wrap (r * 64 - w) = r * 64 - w := w64 (by omega) (by omega)
      have ew6 : IntKind.i64.wrap (r * 64 - w - 1) = r * 64 - w - 1 := w64 (by omega) (by omega)
      clear hT hP hI mi
      simp [ew1, ew2, ew3, ew4, ew5, ew6, mp, decrec_ite, imax_eq, imin_eq] at *
      first | omega | (simp [*]; done) | (simp [*]; omega) | skip
  · subst ho
    repeat' first
      | (refine Go.mk ?_; conv => whnf)
      | refine Need.go ?_ ?_
      | refine NilG.go (fun _ => ?_) (fun _ => ?_)
      | refine Br.dec (fun _ => ?_) (fun _ => ?_)
      | refine Br.go (fun _ => ?_) (fun _ => ?_)
      | refine draw_go hT hP mixed ?_
      | refine round_go hT hP ?_
    all_goals first
      | exact of_decide_eq_true rfl
      | (exfalso; rename_i h; revert h; decide)
      | (refine .mk [] [] _ rfl rfl rfl rfl rfl rfl (imm_int ?_)
         rw [hA, hB]; rfl)
      | skip

end Go.Proofs.YtblnigjmcjpopaaGreat

/- Names: what counts as one. -/
namespace Go.Proofs.YtblnigjmcjpopaaGreat
open Go.Fw
set_option linter.unusedVariables false
set_option linter.unusedSimpArgs false
set_option linter.constructorNameAsVariable false
set_option maxRecDepth 100000

abbrev gStr : Sig := ⟨false, .str⟩
def letB (c : Int) : Bool := decide ((97 ≤ c ∧ c ≤ 122) ∨ (48 ≤ c ∧ c ≤ 57) ∨ c = 45)
def nameB (l : List Int) : Bool := decide (l.length ≠ 0 ∧ l.length ≤ 20 ∧ 97 ≤ l.getD 0 0 ∧ l.getD 0 0 ≤ 122) && l.all letB
theorem bytes_len (s : ByteArray) : (bytesOf s).length = s.size := by
  unfold bytesOf
  rw [List.length_map, Array.length_toList]; rfl
theorem byte_at (s : ByteArray) (i : Nat) : byteAt s i = (bytesOf s).getD i 0 := by
  unfold byteAt bytesOf
  rw [List.getD_eq_getElem?_getD, List.getD_eq_getElem?_getD, List.getElem?_map]
  cases s.data.toList[i]? <;> rfl
theorem bytes_in (s : ByteArray) : ∀ c ∈ bytesOf s, 0 ≤ c ∧ c < 256 := by
  intro c hc
  unfold bytesOf at hc
  obtain ⟨b, _, rfl⟩ := List.mem_map.1 hc
  have := b.toNat_lt
  omega
theorem strEq_nil {s : ByteArray} : strEq s ⟨#[]⟩ = decide ((bytesOf s).length = 0) := by
  unfold strEq bytesOf
  rw [ByteArray.toList_eq, ByteArray.toList_eq, List.length_map]
  cases s.data.toList with
  | nil => rfl
  | cons a r => rfl
theorem name_no {l : List Int} (h : l.length = 0 ∨ l.length > 20 ∨ l.getD 0 0 < 97 ∨ l.getD 0 0 > 122 ∨ l.all letB = false) : nameB l = false := by
  unfold nameB
  by_cases h2 : l.all letB = false
  · rw [h2, Bool.and_false]
  · rw [decide_eq_false (by rcases h with h | h | h | h | h <;> first | omega | exact absurd h h2), Bool.false_and]
theorem all_take {l : List Int} {k : Nat} (h : k < l.length) (h1 : (l.take k).all letB = true) (h2 : letB (l.getD k 0) = true) : (l.take (k + 1)).all letB = true := by
  rw [List.getD_eq_getElem?_getD, List.getElem?_eq_getElem h] at h2
  rw [List.take_add_one, List.all_append, h1, List.getElem?_eq_getElem h]
  simpa using h2
theorem all_no {l : List Int} {k : Nat} (h : k < l.length) (h2 : letB (l.getD k 0) = false) : l.all letB = false := by
  rw [List.getD_eq_getElem?_getD, List.getElem?_eq_getElem h] at h2
  rw [← Bool.not_eq_true]
  intro e
  have := List.all_eq_true.1 e _ (List.getElem_mem h)
  have h2 : letB l[k] = false := h2
  rw [h2] at this
  cases this
def nameS : PSpec := ⟨[gStr], fun (s, _) => (none, .cell (bv (nameB (bytesOf s))), [])⟩
theorem tName_ok : GoodF Tryz.prog 83 nameS.spec := by
  have hT := tab_ok (fs := []) tree_ok
  have hP : SpecsOk Tryz.prog (tab tree []) := specs_nil
  refine nameS.good (fn := Tryz.f83) hT hP Tryz.func83 (by kernel_rfl) rfl fun (s : ByteArray) _ => ?_
  repeat' first
    | (refine Go.mk ?_; conv => whnf)
    | refine Need.go ?_ ?_
    | refine NilG.go (fun _ => ?_) (fun _ => ?_)
    | refine Br.dec (fun _ => ?_) (fun _ => ?_)
    | refine Br.go (fun _ => ?_) (fun _ => ?_)
    | refine draw_go hT hP mixed ?_
    | refine round_go hT hP ?_
  all_goals first
    | exact of_decide_eq_true rfl
    | skip
  all_goals (have hL := bytes_len s)
  all_goals (simp only [strEq_nil, byte_at] at *)
  all_goals (have h0 : Int.toNat 0 = 0 := rfl)
  all_goals (try simp only [h0] at *)
  all_goals first
    | (rename_i h
       have h := of_decide_eq_true h
       exact .mk [] [] _ rfl rfl rfl rfl rfl rfl (imm_bool (name_no (.inl h)).symm))
    | (have h : (s.size : Int) > 20 := by assumption
       refine .mk [] [] _ rfl rfl rfl rfl rfl rfl (imm_bool (name_no (.inr (.inl ?_))).symm)
       rw [hL]
       omega)
    | (have h1 : decide ((bytesOf s).length = 0) = false := by assumption
       have h1 := of_decide_eq_false h1
       show 0 ≤ (0 : Int) ∧ (0 : Int) < (s.size : Int)
       omega)
    | (rename_i h
       exact .mk [] [] _ rfl rfl rfl rfl rfl rfl (imm_bool (name_no (.inr (.inr (.inl h)))).symm))
    | (rename_i h
       exact .mk [] [] _ rfl rfl rfl rfl rfl rfl (imm_bool (name_no (.inr (.inr (.inr (.inl h))))).symm))
    | skip
  have g1 : decide ((bytesOf s).length = 0) = false := by assumption
  have g1 := of_decide_eq_false g1
  have g2 : ¬ (s.size : Int) > 20 := by assumption
  have g3 : ¬ (bytesOf s).getD 0 0 < 97 := by assumption
  have g4 : ¬ (bytesOf s).getD 0 0 > 122 := by assumption
  have hF : nameB (bytesOf s) = (bytesOf s).all letB := by
    unfold nameB
    rw [decide_eq_true ⟨g1, by omega, by omega, by omega⟩, Bool.true_and]
  refine up_go hT hP (A := Unit) (bytesOf s).length (fun i _ => St.mk [.dead, .dead, .dead, .dead, .dead, .dead, .dead, .dead, .dead, .dead, .dead, .dead, .dead, .dead, .dead, .dead, .dead, .dead, .dead, .dead, .dead, .dead, .dead, .cell (.ro (.int .u8) (bytesOf s)), I ((bytesOf s).length : Int), I i, .dead, .dead, .dead, .dead, .dead, .dead, .dead, .dead, .dead, .dead, .dead, .dead, .dead, .dead, .dead, .dead, .dead, .dead, .dead, .dead, .dead, .dead, .dead] [])
    (fun k _ => ((bytesOf s).take k).all letB = true) () (Le.mk [] [] rfl rfl rfl ?_) (by simp) fun k _ hk hi => ?_
  · repeat' first | exact trivial | exact ⟨rfl, rfl⟩ | refine And.intro ?_ ?_
  repeat' first
    | (refine Go.mk ?_; conv => whnf)
    | refine Need.go ?_ ?_
    | refine NilG.go (fun _ => ?_) (fun _ => ?_)
    | refine Br.dec (fun _ => ?_) (fun _ => ?_)
    | refine Br.go (fun _ => ?_) (fun _ => ?_)
    | refine draw_go hT hP mixed ?_
    | refine round_go hT hP ?_
  all_goals
    have ec : List.getD (α := Den (.int .u8)) (bytesOf s) ((k : Int)).toNat (dflt (.int .u8)) = (bytesOf s).getD k 0 := rfl
    try simp only [ec] at *
    clear ec
  all_goals clear hT hP
  all_goals
    generalize hc : (bytesOf s).getD k 0 = c at *
  all_goals (try simp only [cond_false, Bool.not_eq_true', Bool.not_eq_false', beq_iff_eq, beq_eq_false_iff_ne] at *)
  have hlen : (bytesOf s).length ≤ 20 := by omega
  all_goals first
    | exact of_decide_eq_true rfl
    | (show 0 ≤ (k : Int) ∧ (k : Int) < ((bytesOf s).length : Int)
       omega)
    | (have hb : letB c = false := decide_eq_false (by omega)
       refine .mk [] [] _ rfl rfl rfl rfl rfl rfl (imm_bool ?_)
       rw [hF, all_no (k := k) (by omega) (by rw [hc]; exact hb)])
    | (have hb : letB c = true := decide_eq_true (by omega)
       apply Exists.intro
       apply Exists.intro ()
       refine And.intro (And.intro ?lt (And.intro ?ei ?inv)) (Le.mk [] [] rfl rfl ?hh ?ht)
       case hh => exact rfl
       case ht => repeat' first | exact trivial | exact ⟨rfl, rfl⟩ | refine And.intro ?_ ?_
       case lt => omega
       case ei => exact up_i (by omega)
       case inv => exact all_take (by omega) hi (by rw [hc]; exact hb))
    | (refine .mk [] [] _ rfl rfl rfl rfl rfl rfl (imm_bool ?_)
       rw [hF]
       rw [List.take_of_length_le (by omega)] at hi
       exact hi.symm)
    | skip
  all_goals trace_state

end Go.Proofs.YtblnigjmcjpopaaGreat

/- Where a byte is in a text; what counts as a name, for the reference. -/
namespace Go.Proofs.YtblnigjmcjpopaaGreat
open Go.Fw
set_option linter.unusedVariables false
set_option linter.unusedSimpArgs false
set_option linter.constructorNameAsVariable false
set_option maxRecDepth 100000

abbrev gu8 : Sig := ⟨false, .int .u8⟩
set_option maxHeartbeats 1000000 in
theorem idxb_run (s : ByteArray) (c : Int) (w : World) :
    Calls Tryz.prog 151 #[.string s, .int .u8 c] w fun e w' => e = .returned (.int .i64 (Lib.indexByte s.data.toList c.toNat.toUInt8)) ∧ w' = w := by
  have mixed : Tryz.prog.follows .mixedOrders = true := mixed
  go_enter Tryz.func151, Tryz.ntmps151
  go_wp2
  rw [run_callFunc_extern Tryz.func155 (by kernel_rfl) (by kernel_rfl) (by kernel_rfl) (e := Extern.BytealgIndexByte.indexByte) (by kernel_rfl), Lib.run_indexByteString]
  simp only [Result.andThen]
  rw [Oper.upon_value]
  go_wp2
  go_ret
  exact ⟨rfl, rfl⟩
def idxbS : PSpec := ⟨[gStr, gu8], fun (s, c, _) => (none, I (Lib.indexByte s.data.toList (Int.toNat c).toUInt8), [])⟩
theorem idxb_ok : GoodF Tryz.prog 151 idxbS.spec := by
  refine PSpec.of_calls Tryz.func151 (by kernel_rfl) rfl idxbS (fun _ => rfl) fun E (s, c, _) vs hv _ => ?_
  obtain ⟨v1, r1, e1, ⟨h1, _⟩, v2, r2, e2, ⟨h2, _⟩, h3⟩ := hv
  injection h1 with h1
  injection h2 with h2
  have h3 : r2 = [] := h3
  have e : vs = #[.string s, .int .u8 c] := by
    apply Array.ext'
    rw [e1, e2, h3, h1, h2]
  subst e
  refine (idxb_run s c E.w).mono ?_
  rintro e w' ⟨rfl, rfl⟩
  exact ⟨⟨_, rfl, rfl, rfl⟩, rfl⟩
def lets : List UInt8 := [97, 98, 99, 100, 101, 102, 103, 104, 105, 106, 107, 108, 109, 110, 111, 112, 113, 114, 115, 116, 117, 118, 119, 120, 121, 122]
def lets2 : List UInt8 := lets ++ [48, 49, 50, 51, 52, 53, 54, 55, 56, 57, 45]
theorem lets_all : (List.range 256).all (fun n => decide (Lib.indexByte lets n.toUInt8 < 0) == !decide (97 ≤ n ∧ n ≤ 122)) = true := by decide +kernel
theorem lets2_all : (List.range 256).all (fun n => decide (Lib.indexByte lets2 n.toUInt8 < 0) == !letB (n : Int)) = true := by decide +kernel
theorem lets_in {c : Int} (h : 0 ≤ c ∧ c < 256) : decide (Lib.indexByte lets c.toNat.toUInt8 < 0) = !decide (97 ≤ c ∧ c ≤ 122) := by
  have := List.all_eq_true.1 lets_all c.toNat (List.mem_range.2 (by omega))
  rw [beq_iff_eq] at this
  rw [this]
  congr 1
  by_cases h2 : 97 ≤ c ∧ c ≤ 122
  · rw [decide_eq_true h2, decide_eq_true (by omega)]
  · rw [decide_eq_false h2, decide_eq_false (by omega)]
theorem lets2_in {c : Int} (h : 0 ≤ c ∧ c < 256) : decide (Lib.indexByte lets2 c.toNat.toUInt8 < 0) = !letB c := by
  have := List.all_eq_true.1 lets2_all c.toNat (List.mem_range.2 (by omega))
  rw [beq_iff_eq] at this
  rw [this]
  have : ((c.toNat : Nat) : Int) = c := by omega
  rw [this]
end Go.Proofs.YtblnigjmcjpopaaGreat

/- Tables of instructions: how long an operand is; a table without instructions. -/
namespace Go.Proofs.YtblnigjmcjpopaaGreat
open Go.Fw
set_option linter.unusedVariables false
set_option linter.unusedSimpArgs false
set_option linter.constructorNameAsVariable false
set_option maxRecDepth 100000

def sizeI (m : Int) : Int := if m = 0 then 0 else if m = 4 ∨ m = 5 ∨ m = 6 then 2 else if m = 1 ∨ m = 2 ∨ m = 3 ∨ m = 7 ∨ m = 8 then 1 else -1
def tsizeS : PSpec := ⟨[gi], fun (m, _) => (none, I (sizeI m), [])⟩
theorem tSize_ok : GoodF Tryz.prog 131 tsizeS.spec := by
  have hT := tab_ok (fs := []) tree_ok
  have hP : SpecsOk Tryz.prog (tab tree []) := specs_nil
  refine tsizeS.good (fn := Tryz.f131) hT hP Tryz.func131 (by kernel_rfl) rfl fun (m : Int) _ => ?_
  repeat' first
    | (refine Go.mk ?_; conv => whnf)
    | refine Need.go ?_ ?_
    | refine NilG.go (fun _ => ?_) (fun _ => ?_)
    | refine Br.dec (fun _ => ?_) (fun _ => ?_)
    | refine Br.go (fun _ => ?_) (fun _ => ?_)
    | refine draw_go hT hP mixed ?_
    | refine round_go hT hP ?_
  all_goals (refine .mk [] [] _ rfl rfl rfl rfl rfl rfl (imm_int ?_))
  all_goals clear hT hP
  all_goals (show _ = sizeI m; unfold sizeI; dsimp only [gi, Den] at *)
  all_goals ((repeat' split) <;> first | rfl | omega)
def cycles0S : PSpec := ⟨[⟨false, .sl CycT⟩], fun (l, _) => (some (l = []), I 0, [])⟩
theorem cycles0_ok : GoodF Tryz.prog 134 cycles0S.spec := by
  have hT := tab_ok (fs := []) tree_ok
  have hP : SpecsOk Tryz.prog (tab tree []) := specs_nil
  refine cycles0S.good (fn := Tryz.f134) hT hP Tryz.func134 (by kernel_rfl) rfl fun (l : List Cyc) hq => ?_
  obtain rfl : l = [] := hq _ rfl
  clear hq
  repeat' first
    | (refine Go.mk ?_; conv => whnf)
    | refine Need.go ?_ ?_
    | refine NilG.go (fun _ => ?_) (fun _ => ?_)
    | refine Br.dec (fun _ => ?_) (fun _ => ?_)
    | refine Br.go (fun _ => ?_) (fun _ => ?_)
    | refine draw_go hT hP mixed ?_
    | refine round_go hT hP ?_
  refine loop_unroll 1 ?_
  repeat' first
    | (refine Go.mk ?_; conv => whnf)
    | refine Need.go ?_ ?_
    | refine NilG.go (fun _ => ?_) (fun _ => ?_)
    | refine Br.dec (fun _ => ?_) (fun _ => ?_)
    | refine Br.go (fun _ => ?_) (fun _ => ?_)
    | refine draw_go hT hP mixed ?_
    | refine round_go hT hP ?_
  all_goals exact .mk [] [] _ rfl rfl rfl rfl rfl rfl rfl
def check0S : PSpec := ⟨[gCpu], fun (c, _) => (some (c.2 = ([], [], [], [])), I (if nameB (bytesOf c.1) = true then 0 else 15), [])⟩
theorem check0_ok : GoodF Tryz.prog 127 check0S.spec := by
  have hT := tab_ok (fs := [(83, nameS.spec), (134, cycles0S.spec)]) tree_ok
  have hP : SpecsOk Tryz.prog (tab tree [(83, nameS.spec), (134, cycles0S.spec)]) := specs_cons tName_ok (specs_cons cycles0_ok specs_nil)
  refine check0S.good (fn := Tryz.f127) hT hP Tryz.func127 (by kernel_rfl) rfl fun (c : Cpu) hq => ?_
  obtain ⟨cn, c2⟩ := c
  obtain rfl : c2 = ([], [], [], []) := hq _ rfl
  clear hq
  repeat' first
    | (refine Go.mk ?_; conv => whnf)
    | refine Need.go ?_ ?_
    | refine NilG.go (fun _ => ?_) (fun _ => ?_)
    | refine Br.dec (fun _ => ?_) (fun _ => ?_)
    | refine Br.go (fun _ => ?_) (fun _ => ?_)
    | refine draw_go hT hP mixed ?_
    | refine round_go hT hP ?_
  all_goals first
    | exact of_decide_eq_true rfl
    | skip
  · rename_i h
    have hn : nameB (bytesOf cn) = false := by
      have h : (!nameB (bytesOf cn)) = true := h
      simpa using h
    refine .mk [] [] _ rfl rfl rfl rfl rfl rfl (imm_int ?_)
    show 15 = if nameB (bytesOf cn) = true then 0 else 15
    rw [hn]; rfl
  rename_i h
  have hn : nameB (bytesOf cn) = true := by
    have h : (!nameB (bytesOf cn)) = false := h
    simpa using h
  refine loop_unroll 1 ?_
  repeat' first
    | (refine Go.mk ?_; conv => whnf)
    | refine Need.go ?_ ?_
    | refine NilG.go (fun _ => ?_) (fun _ => ?_)
    | refine Br.dec (fun _ => ?_) (fun _ => ?_)
    | refine Br.go (fun _ => ?_) (fun _ => ?_)
    | refine draw_go hT hP mixed ?_
    | refine round_go hT hP ?_
  refine loop_unroll 4 ?_
  repeat' first
    | (refine Go.mk ?_; conv => whnf)
    | refine Need.go ?_ ?_
    | refine NilG.go (fun _ => ?_) (fun _ => ?_)
    | refine Br.dec (fun _ => ?_) (fun _ => ?_)
    | refine Br.go (fun _ => ?_) (fun _ => ?_)
    | refine draw_go hT hP mixed ?_
    | refine round_go hT hP ?_
  all_goals first
    | exact of_decide_eq_true rfl
    | exact rfl
    | skip
  all_goals (refine .mk [] [] _ rfl rfl rfl rfl rfl rfl (imm_int ?_))
  all_goals (show 0 = if nameB (bytesOf cn) = true then 0 else 15; rw [hn]; rfl)

def tablesS : PSpec := ⟨[], fun _ => (none, .cell (bv true), [])⟩
end Go.Proofs.YtblnigjmcjpopaaGreat

/- What the functions of package bit and the digits of bakeref1 are as arithmetic. -/
namespace Go.Proofs.YtblnigjmcjpopaaGreat
open Go.Fw
set_option linter.unusedVariables false
set_option linter.unusedSimpArgs false

theorem digitF_eq (n : Int) (i : Nat) (h : i ≤ 62) : digitF n i = ((u64 n / 2 ^ i % 2 : Nat) : Int) := by
  unfold digitF
  have e1 : IntKind.u64.wrap n = (u64 n : Int) := by rw [IntKind.wrap_u64]; unfold u64; omega
  have e2 : shr .u64 (IntKind.u64.wrap n) i = ((u64 n / 2 ^ i : Nat) : Int) := by
    rw [e1]
    show ((u64 n : Nat) : Int).fdiv (2 ^ (min ((i : Int).toNat) 64)) = _
    have : min ((i : Int).toNat) 64 = i := by omega
    rw [this]
    have e2 : (2 : Int) ^ i = ((2 ^ i : Nat) : Int) := by simp
    rw [e2, Int.fdiv_eq_ediv_of_nonneg _ (Int.natCast_nonneg _)]
    simp
  rw [e2]
  have hlt : u64 n / 2 ^ i < 2 ^ 64 := Nat.lt_of_le_of_lt (Nat.div_le_self _ _) (u64_lt n)
  have e3 : land .u64 ((u64 n / 2 ^ i : Nat) : Int) 1 = ((u64 n / 2 ^ i % 2 : Nat) : Int) := by
    show IntKind.u64.wrap (((BitVec.ofInt 64 ((u64 n / 2 ^ i : Nat) : Int) &&& BitVec.ofInt 64 1).toNat : Nat) : Int) = _
    rw [BitVec.toNat_and, ofInt_toNat, ofInt_toNat, u64_nat hlt]
    have : u64 1 = 2 ^ 1 - 1 := by decide
    rw [this, Nat.and_two_pow_sub_one_eq_mod, IntKind.wrap_u64]
    omega
  rw [e3]
  exact w64 (by omega) (by omega)
theorem digF_eq (n : Int) (k : Nat) (h : k ≤ 62) : digF n k = bitsN (u64 n) k := by
  unfold digF bitsN
  apply List.map_congr_left
  intro i hi
  exact digitF_eq n i (by have := List.mem_range.1 hi; omega)
theorem of2F_bits : ∀ (k m : Nat), k ≤ 62 → of2F (bitsN m k) = ((m % 2 ^ k : Nat) : Int)
  | 0, m, _ => by simp [bitsN, of2F, Nat.mod_one]
  | k + 1, m, h => by
    have ih := of2F_bits k (m / 2) (by omega)
    rw [bitsN_succ]
    show IntKind.i64.wrap (IntKind.i64.wrap (2 * of2F (bitsN (m / 2) k)) + ((m % 2 : Nat) : Int)) = _
    rw [ih]
    have h3 : 2 ^ k ≤ 2 ^ 61 := pow_le (by omega)
    have h4 : m / 2 % 2 ^ k < 2 ^ k := Nat.mod_lt _ (Nat.pow_pos (by omega))
    rw [w64 (x := 2 * ((m / 2 % 2 ^ k : Nat) : Int)) (by omega) (by omega), w64 (by omega) (by omega)]
    have e : m % 2 ^ (k + 1) = m % 2 + 2 * (m / 2 % 2 ^ k) := by
      rw [Nat.pow_succ, Nat.mul_comm, Nat.mod_mul]
    rw [e]
    omega
theorem dig2_62 (n : Int) : dig2F n 62 = bitsN (u64 n) 62 := digF_eq n 62 (by omega)

end Go.Proofs.YtblnigjmcjpopaaGreat

/- Lines with four values, as plain functions: how joining many compares with the drivers of each way. -/
namespace Go.Proofs.YtblnigjmcjpopaaGreat
open Go.Fw
set_option linter.unusedVariables false
set_option linter.unusedSimpArgs false

def fitF (a : Int) : Int := if a < 0 then 3 else if a > 3 then 3 else a
def joinF (a b : Int) : Int := if fitF a = 2 then fitF b else if fitF b = 2 then fitF a else if fitF a = fitF b then fitF a else 3
def pullF (a b : Int) : Int := if fitF a = 2 then fitF b else fitF a
def allF (l : List Int) : Int := l.foldl joinF 2
def lowB (a : Int) : Bool := decide (a = 0) || (decide (a < 0) || decide (a > 2))
def highB (a : Int) : Bool := decide (a = 1) || (decide (a < 0) || decide (a > 2))
def codeF (lo hi : Bool) : Int := match lo, hi with | true, true => 3 | true, false => 0 | false, true => 1 | false, false => 2
def lineF (l : List Int) : Int := codeF (l.any lowB) (l.any highB)
def wiredF (l : List Int) (b : Int) : Int := if l.any (fun x => decide (fitF x = 0)) = true then 0 else if l.any (fun x => decide (fitF x = 3)) = true then 3 else fitF b

theorem fitF_code (a : Int) : fitF a = codeF (lowB a) (highB a) := by
  by_cases h0 : a = 0
  · subst h0; decide
  by_cases h1 : a = 1
  · subst h1; decide
  by_cases h2 : a = 2
  · subst h2; decide
  have e1 : lowB a = true := by unfold lowB; simp; omega
  have e2 : highB a = true := by unfold highB; simp; omega
  rw [e1, e2]
  show fitF a = 3
  unfold fitF
  split <;> (try split) <;> omega
theorem join_code (lo hi : Bool) (a : Int) : joinF (codeF lo hi) a = codeF (lo || lowB a) (hi || highB a) := by
  unfold joinF
  rw [fitF_code a]
  cases lo <;> cases hi <;> cases lowB a <;> cases highB a <;> decide
theorem foldl_code : ∀ (l : List Int) (lo hi : Bool), l.foldl joinF (codeF lo hi) = codeF (lo || l.any lowB) (hi || l.any highB)
  | [], lo, hi => by simp
  | a :: l, lo, hi => by
    rw [List.foldl_cons, join_code, foldl_code l, List.any_cons, List.any_cons, Bool.or_assoc, Bool.or_assoc]
theorem allF_line (l : List Int) : allF l = lineF l := by
  show l.foldl joinF (codeF false false) = _
  rw [foldl_code]
  simp [lineF]
theorem line_one (a : Int) : lineF [a] = fitF a := by
  rw [fitF_code]; simp [lineF]
theorem line_two (a b : Int) : lineF [a, b] = joinF a b := by
  have h := join_code (lowB a) (highB a) b
  rw [← fitF_code] at h
  have e : joinF (fitF a) b = joinF a b := by
    have : fitF (fitF a) = fitF a := by
      rw [fitF_code a]; cases lowB a <;> cases highB a <;> decide
    unfold joinF
    rw [this]
  rw [← e, h]
  simp [lineF]

end Go.Proofs.YtblnigjmcjpopaaGreat

/- The functions of package pin, and bakeref1's lines. -/
namespace Go.Proofs.YtblnigjmcjpopaaGreat
open Go.Fw
set_option linter.unusedVariables false
set_option linter.unusedSimpArgs false
set_option maxRecDepth 100000

theorem tup2_bool {a b c d : Bool} (h1 : a = c) (h2 : b = d) : AV.tup [.c (bv a), .c (bv b)] = AV.tup [.c (bv c), .c (bv d)] := by rw [h1, h2]
theorem any_take {α : Type} [Inhabited α] (l : List α) (d : α) (p : α → Bool) {k : Nat} (h : k < l.length) : (l.take (k + 1)).any p = ((l.take k).any p || p (l.getD k d)) := by
  rw [List.take_succ_eq_append_getElem h, List.any_append]
  simp [h]

def pfitS : PSpec := ⟨[gi], fun (a, _) => (none, I (fitF a), [])⟩
def joinS : PSpec := ⟨[gi, gi], fun (a, b, _) => (none, I (joinF a b), [])⟩
def allS : PSpec := ⟨[gl], fun (l, _) => (some (List.length l ≤ 4611686018427387904), I (allF l), [])⟩
def pullS : PSpec := ⟨[gi, gi], fun (a, b, _) => (none, I (pullF a b), [])⟩
def wiredS : PSpec := ⟨[gl, gi], fun (l, b, _) => (some (List.length l ≤ 4611686018427387904), I (wiredF l b), [])⟩
def driveS : PSpec := ⟨[gi], fun (a, _) => (none, .tup [.c (bv (lowB a)), .c (bv (highB a))], [])⟩
def lineS : PSpec := ⟨[gl], fun (l, _) => (some (List.length l ≤ 4611686018427387904), I (lineF l), [])⟩
def idxF (p : Int → Bool) : List Int → Int → Int
  | [], _ => -1
  | a :: l, i => if p a = true then i else idxF p l (i + 1)
theorem idxF_any (p : Int → Bool) : ∀ (l : List Int) (i : Int), 0 ≤ i → decide (idxF p l i ≥ 0) = l.any p
  | [], i, h => by simp [idxF]
  | a :: l, i, h => by
    unfold idxF
    rw [List.any_cons]
    cases hp : p a with
    | true => simpa using h
    | false => simpa using idxF_any p l (i + 1) (by omega)
theorem idxF_step (p : Int → Bool) {l : List Int} {k : Nat} (h : k < l.length) : idxF p (l.drop k) k = if p (l.getD k 0) = true then (k : Int) else idxF p (l.drop (k + 1)) ((k : Int) + 1) := by
  rw [List.drop_eq_getElem_cons h, idxF]
  simp [h]

def clashS : PSpec := ⟨[gi], fun (a, _) => (none, .cell (bv (decide (fitF a = 3))), [])⟩
def indexS : PSpec := ⟨[gl, gi], fun (l, v, _) => (some (List.length l ≤ 4611686018427387904), I (idxF (fun a => decide (v = a)) l 0), [])⟩
def containsS : PSpec := ⟨[gl, gi], fun (l, v, _) => (some (List.length l ≤ 4611686018427387904), .cell (bv (l.any fun a => decide (v = a))), [])⟩
def linesS : PSpec := ⟨[], fun _ => (none, .cell (bv true), [])⟩
end Go.Proofs.YtblnigjmcjpopaaGreat

