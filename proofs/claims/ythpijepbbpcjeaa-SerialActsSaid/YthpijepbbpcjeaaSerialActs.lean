/- bakelaw1.SerialActs answers true, whatever it is given. -/
import Derived.Test.YthpijepbbpcjeaaSerial
namespace Go.Proofs.Ythpijepbbpcjeaa
open Go.Fw
set_option linter.unusedVariables false
set_option linter.unusedSimpArgs false
set_option maxRecDepth 100000

theorem ctl4 {c : Int} (h0 : 0 ≤ c) (h1 : c < 4) : ((land .i64 c 1 != 0) = decide (c % 2 = 1)) ∧ ((land .i64 c 2 != 0) = decide (c ≥ 2)) := by
  have : c = 0 ∨ c = 1 ∨ c = 2 ∨ c = 3 := by omega
  rcases this with rfl | rfl | rfl | rfl <;> decide +kernel

def sfreshS : PSpec := ⟨[gC], fun (c, _) => (some (c = serC), devR, [.arr (.int .i64) [0, 0, 0, 0, 0, 0, 0, 0]])⟩
theorem sfresh_ok : Good Try.prog 23 sfreshS.spec := by
  have hT := tab_ok (fs := [(15, sformedS.spec)]) tree_ok
  have hP : SpecsOk Try.prog (tab tree [(15, sformedS.spec)]) := specs_cons sformed_ok specs_nil
  refine sfreshS.good (fn := Try.f23) hT hP Try.func23 (by kernel_rfl) rfl fun (c : Cv) hp => ?_
  have hp : c = serC := hp _ rfl
  subst hp
  repeat' first
    | (refine Go.mk ?_; conv => whnf)
    | refine Need.go ?_ ?_
    | refine NilG.go (fun _ => ?_) (fun _ => ?_)
    | refine Br.dec (fun _ => ?_) (fun _ => ?_)
    | refine Br.go (fun _ => ?_) (fun _ => ?_)
    | refine draw_go hT hP mixed ?_
    | refine round_go hT hP ?_
  · exact rfl
  · exact .mk [] [2] _ rfl rfl rfl rfl rfl rfl rfl

def sloadedS : PSpec := ⟨[gC, gD, gi], fun (c, d, a, _) => (some (c = serC), .tup [.agg [.own 0, .imm (.slice none 0 0)], I1 (srF d.1 a)], [.arr (.int .i64) (srN d.1 a)])⟩
theorem sloaded_ok : Good Try.prog 25 sloadedS.spec := by
  have hT := tab_ok (fs := [(15, sformedS.spec), (92, pickS.spec), (93, truthS.spec)]) tree_ok
  have hP : SpecsOk Try.prog (tab tree [(15, sformedS.spec), (92, pickS.spec), (93, truthS.spec)]) := specs_cons sformed_ok (specs_cons pick_ok (specs_cons seen_ok specs_nil))
  refine sloadedS.good (fn := Try.f25) hT hP Try.func25 (by kernel_rfl) rfl fun (c : Cv) (d : Dv) (a : Int) hp => ?_
  have hp : c = serC := hp _ rfl
  subst hp
  obtain ⟨N, M⟩ := d
  obtain ⟨h0, h1, h2, h3, h4, h5, h6, h7⟩ := sR N
  have hb : 0 ≤ bitI (decide (s1 N > 0)) ∧ bitI (decide (s1 N > 0)) ≤ 1 := by cases decide (s1 N > 0) <;> decide
  have hv : IntKind.i64.wrap (IntKind.i64.wrap (s3 N + IntKind.i64.wrap (2 * bitI (decide (s1 N > 0)))) + IntKind.i64.wrap (4 * s4 N)) = s3 N + 2 * bitI (decide (s1 N > 0)) + 4 * s4 N := by
    rw [w64 (x := 2 * bitI (decide (s1 N > 0))) (by omega) (by omega), w64 (x := 4 * s4 N) (by omega) (by omega), w64 (x := s3 N + 2 * bitI (decide (s1 N > 0))) (by omega) (by omega), w64 (by omega) (by omega)]
  have fin : ∀ x, x = [s0 N, s1 N, s2 N, s3 N, s4 N, s5 N, s6 N, s7 N] → True := fun _ _ => trivial
  repeat' first
    | (refine Go.mk ?_; conv => whnf)
    | refine Need.go ?_ ?_
    | refine NilG.go (fun _ => ?_) (fun _ => ?_)
    | refine Br.dec (fun _ => ?_) (fun _ => ?_)
    | refine Br.go (fun _ => ?_) (fun _ => ?_)
    | refine draw_go hT hP mixed ?_
    | refine round_go hT hP ?_
  all_goals first
    | exact rfl
    | exact of_decide_eq_true rfl
    | skip
  all_goals
    refine .mk [] [4] _ rfl rfl rfl rfl rfl ?_ (tup_reads (congrArg (fun z => pickF [s2 N, z, s5 N] a) hv))
  · rename_i g0 g1
    have g0 : a = 0 := g0
    have g1 : a = 1 := g1
    omega
  · rename_i g0 g1
    have g0 : a = 0 := g0
    subst g0
    exact rfl
  · rename_i g0 g1
    have g1 : a = 1 := g1
    subst g1
    exact rfl
  · rename_i g0 g1
    have g0 : ¬ a = 0 := g0
    have g1 : ¬ a = 1 := g1
    refine blk_eqs (l := serN N) (l' := srN N a) ?_
    rw [serN_eq, srN, if_neg g0, if_neg g1]

def swN (N : List Int) (a k : Int) : List Int :=
  [if a = 0 ∧ s1 N = 0 then k % 256 else s0 N, if a = 0 ∧ s1 N = 0 then 40 else s1 N, s2 N, s3 N, s4 N, if a = 2 then k % 4 else s5 N, s6 N, s7 N]
def swriteS : PSpec := ⟨[gD, gi, gi], fun (d, a, k, _) => (none, devR, [.arr (.int .i64) (swN d.1 a k)])⟩
theorem swN_0 {N : List Int} {k : Int} (h : s1 N = 0) : swN N 0 k = [k % 256, 40, s2 N, s3 N, s4 N, s5 N, s6 N, s7 N] := by
  rw [swN, if_pos ⟨rfl, h⟩, if_pos ⟨rfl, h⟩, if_neg (by omega)]
theorem swN_2 {N : List Int} {k : Int} : swN N 2 k = [s0 N, s1 N, s2 N, s3 N, s4 N, k % 4, s6 N, s7 N] := by
  rw [swN, if_neg (fun e => by omega), if_neg (fun e => by omega), if_pos rfl]
theorem swN_no {N : List Int} {a k : Int} (h : ¬ (a = 0 ∧ s1 N = 0)) (h2 : ¬ a = 2) : swN N a k = serN N := by
  rw [swN, if_neg h, if_neg h, if_neg h2]; rfl
theorem swrite_ok : Good Try.prog 26 swriteS.spec := by
  have hT := tab_ok (fs := [(90, sfitS.spec), (94, lowM.spec)]) tree_ok
  have hP : SpecsOk Try.prog (tab tree [(90, sfitS.spec), (94, lowM.spec)]) := specs_cons sfit_ok (specs_cons lowM_ok specs_nil)
  refine swriteS.good (fn := Try.f26) hT hP Try.func26 (by kernel_rfl) rfl fun (d : Dv) (a k : Int) _ => ?_
  obtain ⟨N, M⟩ := d
  repeat' first
    | (refine Go.mk ?_; conv => whnf)
    | refine Need.go ?_ ?_
    | refine NilG.go (fun _ => ?_) (fun _ => ?_)
    | refine Br.dec (fun _ => ?_) (fun _ => ?_)
    | refine Br.go (fun _ => ?_) (fun _ => ?_)
    | refine draw_go hT hP mixed ?_
    | refine round_go hT hP ?_
  all_goals first
    | exact rfl
    | exact of_decide_eq_true rfl
    | skip
  · rename_i g0 g1
    have g1 : s1 N = 0 := g1
    subst g0
    refine .mk [] [2] _ rfl rfl rfl rfl rfl (blk_eqs (l := [k % 2 ^ (8 : Int).toNat, 40, s2 N, s3 N, s4 N, s5 N, s6 N, s7 N]) (l' := swN N 0 k) ?_) rfl
    rw [swN_0 g1]; rfl
  · rename_i g0 g1 g2
    omega
  · rename_i g0 g1 g2
    have g1 : ¬ s1 N = 0 := g1
    refine .mk [] [2] _ rfl rfl rfl rfl rfl (blk_eqs (l := serN N) (l' := swN N a k) ?_) rfl
    rw [swN_no (fun e => g1 e.2) g2]
  · rename_i g0 g1
    subst g1
    refine .mk [] [2] _ rfl rfl rfl rfl rfl (blk_eqs (l := [s0 N, s1 N, s2 N, s3 N, s4 N, k % 2 ^ (2 : Int).toNat, s6 N, s7 N]) (l' := swN N 2 k) ?_) rfl
    rw [swN_2]; rfl
  · rename_i g0 g1
    refine .mk [] [2] _ rfl rfl rfl rfl rfl (blk_eqs (l := serN N) (l' := swN N a k) ?_) rfl
    rw [swN_no (fun e => g0 e.1) g1]

def sstoredS : PSpec := ⟨[gC, gD, gi, gi], fun (c, d, a, k, _) => (some (c = serC), devR, [.arr (.int .i64) (swN d.1 a k)])⟩
theorem sstored_ok : Good Try.prog 27 sstoredS.spec := by
  have hT := tab_ok (fs := [(15, sformedS.spec), (95, modS.spec)]) tree_ok
  have hP : SpecsOk Try.prog (tab tree [(15, sformedS.spec), (95, modS.spec)]) := specs_cons sformed_ok (specs_cons mod_ok specs_nil)
  refine sstoredS.good (fn := Try.f27) hT hP Try.func27 (by kernel_rfl) rfl fun (c : Cv) (d : Dv) (a k : Int) hp => ?_
  have hp : c = serC := hp _ rfl
  subst hp
  obtain ⟨N, M⟩ := d
  repeat' first
    | (refine Go.mk ?_; conv => whnf)
    | refine Need.go ?_ ?_
    | refine NilG.go (fun _ => ?_) (fun _ => ?_)
    | refine Br.dec (fun _ => ?_) (fun _ => ?_)
    | refine Br.go (fun _ => ?_) (fun _ => ?_)
    | refine draw_go hT hP mixed ?_
    | refine round_go hT hP ?_
  all_goals first
    | exact rfl
    | exact of_decide_eq_true rfl
    | skip
  · rename_i g0 g1 g2
    omega
  · rename_i g0 g1 g2
    have g0 : a = 0 := g0
    have g1 : s1 N = 0 := g1
    subst g0
    refine .mk [] [3] _ rfl rfl rfl rfl rfl (blk_eqs (l := [k % 256, 40, s2 N, s3 N, s4 N, s5 N, s6 N, s7 N]) (l' := swN N 0 k) ?_) rfl
    rw [swN_0 g1]
  · rename_i g0 g1 g2
    omega
  · rename_i g0 g1 g2
    have g1 : ¬ s1 N = 0 := g1
    refine .mk [] [3] _ rfl rfl rfl rfl rfl (blk_eqs (l := serN N) (l' := swN N a k) ?_) rfl
    rw [swN_no (fun e => g1 e.2) g2]
  · rename_i g0 g1
    subst g1
    refine .mk [] [3] _ rfl rfl rfl rfl rfl (blk_eqs (l := [s0 N, s1 N, s2 N, s3 N, s4 N, Int.tmod (k % 256) 4, s6 N, s7 N]) (l' := swN N 2 k) ?_) rfl
    have e : Int.tmod (k % 256) 4 = k % 4 := by rw [Int.tmod_eq_emod_of_nonneg (by omega)]; omega
    rw [swN_2, e]
  · rename_i g0 g1
    refine .mk [] [3] _ rfl rfl rfl rfl rfl (blk_eqs (l := serN N) (l' := swN N a k) ?_) rfl
    rw [swN_no (fun e => g0 e.1) g1]

def sgivenS : PSpec := ⟨[gC, gD, gi], fun (c, d, k, _) => (some (c = serC), devR, [.arr (.int .i64) (sinN d.1 k)])⟩
theorem sgiven_ok : Good Try.prog 29 sgivenS.spec := by
  have hT := tab_ok (fs := [(15, sformedS.spec), (95, modS.spec)]) tree_ok
  have hP : SpecsOk Try.prog (tab tree [(15, sformedS.spec), (95, modS.spec)]) := specs_cons sformed_ok (specs_cons mod_ok specs_nil)
  refine sgivenS.good (fn := Try.f29) hT hP Try.func29 (by kernel_rfl) rfl fun (c : Cv) (d : Dv) (k : Int) hp => ?_
  have hp : c = serC := hp _ rfl
  subst hp
  obtain ⟨N, M⟩ := d
  repeat' first
    | (refine Go.mk ?_; conv => whnf)
    | refine Need.go ?_ ?_
    | refine NilG.go (fun _ => ?_) (fun _ => ?_)
    | refine Br.dec (fun _ => ?_) (fun _ => ?_)
    | refine Br.go (fun _ => ?_) (fun _ => ?_)
    | refine draw_go hT hP mixed ?_
    | refine round_go hT hP ?_
  all_goals first
    | exact rfl
    | exact of_decide_eq_true rfl
    | (rename_i h
       have h : s3 N = 1 := h
       refine .mk [] [3] _ rfl rfl rfl rfl rfl (blk_eqs (l := [s0 N, s1 N, s2 N, s3 N, 1, s5 N, s6 N, s7 N]) ?_) rfl
       show _ = sinN N k
       rw [sinN, if_pos h, if_pos h, h])
    | (rename_i h
       have h : ¬ s3 N = 1 := h
       refine .mk [] [3] _ rfl rfl rfl rfl rfl (blk_eqs (l := [s0 N, s1 N, k % 256, 1, s4 N, s5 N, s6 N, s7 N]) ?_) rfl
       show _ = sinN N k
       rw [sinN, if_neg h, if_neg h])

def sirqF (N : List Int) : Bool := (decide (s5 N % 2 = 1) && decide (s3 N = 1)) || (decide (s5 N ≥ 2) && decide (s1 N = 0))
theorem sirq1 {N : List Int} (h : s5 N % 2 = 1) (h2 : s3 N = 1) : true = sirqF N := by unfold sirqF; rw [decide_eq_true h, decide_eq_true h2]; rfl
theorem sirq2 {N : List Int} (h : ¬ (s5 N % 2 = 1 ∧ s3 N = 1)) (h2 : s5 N ≥ 2) : decide (s1 N = 0) = sirqF N := by
  unfold sirqF
  rw [← Bool.decide_and, decide_eq_false h, decide_eq_true h2]; rfl
theorem sirq3 {N : List Int} (h : ¬ (s5 N % 2 = 1 ∧ s3 N = 1)) (h2 : ¬ s5 N ≥ 2) : false = sirqF N := by
  unfold sirqF
  rw [← Bool.decide_and, decide_eq_false h, decide_eq_false h2]; rfl
def sirqS : PSpec := ⟨[gD], fun (d, _) => (none, .cell (bv (sirqF d.1)), [])⟩
theorem sirq_ok : Good Try.prog 30 sirqS.spec := by
  have hT := tab_ok (fs := [(90, sfitS.spec)]) tree_ok
  have hP : SpecsOk Try.prog (tab tree [(90, sfitS.spec)]) := specs_cons sfit_ok specs_nil
  refine sirqS.good (fn := Try.f30) hT hP Try.func30 (by kernel_rfl) rfl fun (d : Dv) _ => ?_
  obtain ⟨N, M⟩ := d
  obtain ⟨h0, h1, h2, h3, h4, h5, h6, h7⟩ := sR N
  obtain ⟨c1, c2⟩ := ctl4 h5.1 h5.2
  repeat' first
    | (refine Go.mk ?_; conv => whnf)
    | refine Need.go ?_ ?_
    | refine NilG.go (fun _ => ?_) (fun _ => ?_)
    | refine Br.dec (fun _ => ?_) (fun _ => ?_)
    | refine Br.go (fun _ => ?_) (fun _ => ?_)
    | refine draw_go hT hP mixed ?_
    | refine round_go hT hP ?_
  all_goals first
    | exact of_decide_eq_true rfl
    | skip
  · rename_i g q
    have g : (land .i64 (s5 N) 1 != 0) = true := g; rw [c1] at g; have g := of_decide_eq_true g
    have q : s3 N = 1 := q
    refine .mk [] [] _ rfl rfl rfl rfl rfl rfl (imm_bool ?_)
    show true = sirqF N
    exact sirq1 g q
  · rename_i g q r
    have g : (land .i64 (s5 N) 1 != 0) = true := g; rw [c1] at g; have g := of_decide_eq_true g
    have q : ¬ s3 N = 1 := q
    have r : (land .i64 (s5 N) 2 != 0) = true := r; rw [c2] at r; have r := of_decide_eq_true r
    refine .mk [] [] _ rfl rfl rfl rfl rfl rfl (imm_bool ?_)
    show decide (s1 N = 0) = sirqF N
    exact sirq2 (fun e => q e.2) r
  · rename_i g q r
    have g : (land .i64 (s5 N) 1 != 0) = true := g; rw [c1] at g; have g := of_decide_eq_true g
    have q : ¬ s3 N = 1 := q
    have r : (land .i64 (s5 N) 2 != 0) = false := r; rw [c2] at r; have r := of_decide_eq_false r
    refine .mk [] [] _ rfl rfl rfl rfl rfl rfl (imm_bool ?_)
    show false = sirqF N
    exact sirq3 (fun e => q e.2) r
  · rename_i g r
    have g : (land .i64 (s5 N) 1 != 0) = false := g; rw [c1] at g; have g := of_decide_eq_false g
    have r : (land .i64 (s5 N) 2 != 0) = true := r; rw [c2] at r; have r := of_decide_eq_true r
    refine .mk [] [] _ rfl rfl rfl rfl rfl rfl (imm_bool ?_)
    show decide (s1 N = 0) = sirqF N
    exact sirq2 (fun e => g e.1) r
  · rename_i g r
    have g : (land .i64 (s5 N) 1 != 0) = false := g; rw [c1] at g; have g := of_decide_eq_false g
    have r : (land .i64 (s5 N) 2 != 0) = false := r; rw [c2] at r; have r := of_decide_eq_false r
    refine .mk [] [] _ rfl rfl rfl rfl rfl rfl (imm_bool ?_)
    show false = sirqF N
    exact sirq3 (fun e => g e.1) r


def saskS : PSpec := ⟨[gC, gD], fun (c, d, _) => (some (c = serC), .cell (bv (sirqF d.1)), [])⟩
theorem sask_ok : Good Try.prog 31 saskS.spec := by
  have hT := tab_ok (fs := [(15, sformedS.spec)]) tree_ok
  have hP : SpecsOk Try.prog (tab tree [(15, sformedS.spec)]) := specs_cons sformed_ok specs_nil
  refine saskS.good (fn := Try.f31) hT hP Try.func31 (by kernel_rfl) rfl fun (c : Cv) (d : Dv) hp => ?_
  have hp : c = serC := hp _ rfl
  subst hp
  obtain ⟨N, M⟩ := d
  obtain ⟨h0, h1, h2, h3, h4, h5, h6, h7⟩ := sR N
  repeat' first
    | (refine Go.mk ?_; conv => whnf)
    | refine Need.go ?_ ?_
    | refine NilG.go (fun _ => ?_) (fun _ => ?_)
    | refine Br.dec (fun _ => ?_) (fun _ => ?_)
    | refine Br.go (fun _ => ?_) (fun _ => ?_)
    | refine draw_go hT hP mixed ?_
    | refine round_go hT hP ?_
  all_goals first
    | exact rfl
    | exact of_decide_eq_true rfl
    | skip
  · rename_i g q
    have g : Int.tmod (s5 N) 2 = 1 := g; rw [Int.tmod_eq_emod_of_nonneg h5.1] at g
    have q : s3 N = 1 := q
    refine .mk [] [] _ rfl rfl rfl rfl rfl rfl (imm_bool ?_)
    show true = sirqF N
    exact sirq1 g q
  · rename_i g q r
    have g : Int.tmod (s5 N) 2 = 1 := g; rw [Int.tmod_eq_emod_of_nonneg h5.1] at g
    have q : ¬ s3 N = 1 := q
    have r : s5 N ≥ 2 := r
    refine .mk [] [] _ rfl rfl rfl rfl rfl rfl (imm_bool ?_)
    show decide (s1 N = 0) = sirqF N
    exact sirq2 (fun e => q e.2) r
  · rename_i g q r
    have g : Int.tmod (s5 N) 2 = 1 := g; rw [Int.tmod_eq_emod_of_nonneg h5.1] at g
    have q : ¬ s3 N = 1 := q
    have r : ¬ s5 N ≥ 2 := r
    refine .mk [] [] _ rfl rfl rfl rfl rfl rfl (imm_bool ?_)
    show false = sirqF N
    exact sirq3 (fun e => q e.2) r
  · rename_i g r
    have g : ¬ Int.tmod (s5 N) 2 = 1 := g; rw [Int.tmod_eq_emod_of_nonneg h5.1] at g
    have r : s5 N ≥ 2 := r
    refine .mk [] [] _ rfl rfl rfl rfl rfl rfl (imm_bool ?_)
    show decide (s1 N = 0) = sirqF N
    exact sirq2 (fun e => g e.1) r
  · rename_i g r
    have g : ¬ Int.tmod (s5 N) 2 = 1 := g; rw [Int.tmod_eq_emod_of_nonneg h5.1] at g
    have r : ¬ s5 N ≥ 2 := r
    refine .mk [] [] _ rfl rfl rfl rfl rfl rfl (imm_bool ?_)
    show false = sirqF N
    exact sirq3 (fun e => g e.1) r


def soutS : PSpec := ⟨[gD], fun (d, _) => (none, I (s6 d.1 * 256 + s7 d.1), [])⟩
theorem sout_ok : Good Try.prog 32 soutS.spec := by
  have hT := tab_ok (fs := [(90, sfitS.spec)]) tree_ok
  have hP : SpecsOk Try.prog (tab tree [(90, sfitS.spec)]) := specs_cons sfit_ok specs_nil
  refine soutS.good (fn := Try.f32) hT hP Try.func32 (by kernel_rfl) rfl fun (d : Dv) _ => ?_
  obtain ⟨N, M⟩ := d
  obtain ⟨h0, h1, h2, h3, h4, h5, h6, h7⟩ := sR N
  repeat' first
    | (refine Go.mk ?_; conv => whnf)
    | refine Need.go ?_ ?_
    | refine NilG.go (fun _ => ?_) (fun _ => ?_)
    | refine Br.dec (fun _ => ?_) (fun _ => ?_)
    | refine Br.go (fun _ => ?_) (fun _ => ?_)
    | refine draw_go hT hP mixed ?_
    | refine round_go hT hP ?_
  all_goals first
    | exact of_decide_eq_true rfl
    | (refine .mk [] [] _ rfl rfl rfl rfl rfl rfl (imm_int ?_)
       show IntKind.i64.wrap (IntKind.i64.wrap (256 * s6 N) + s7 N) = s6 N * 256 + s7 N
       rw [w64 (x := 256 * s6 N) (by omega) (by omega), w64 (by omega) (by omega)]; omega)

def sshowsS : PSpec := ⟨[gC, gD], fun (c, d, _) => (some (c = serC), I (s6 d.1 * 256 + s7 d.1), [])⟩
theorem sshows_ok : Good Try.prog 33 sshowsS.spec := by
  have hT := tab_ok (fs := [(15, sformedS.spec)]) tree_ok
  have hP : SpecsOk Try.prog (tab tree [(15, sformedS.spec)]) := specs_cons sformed_ok specs_nil
  refine sshowsS.good (fn := Try.f33) hT hP Try.func33 (by kernel_rfl) rfl fun (c : Cv) (d : Dv) hp => ?_
  have hp : c = serC := hp _ rfl
  subst hp
  obtain ⟨N, M⟩ := d
  obtain ⟨h0, h1, h2, h3, h4, h5, h6, h7⟩ := sR N
  repeat' first
    | (refine Go.mk ?_; conv => whnf)
    | refine Need.go ?_ ?_
    | refine NilG.go (fun _ => ?_) (fun _ => ?_)
    | refine Br.dec (fun _ => ?_) (fun _ => ?_)
    | refine Br.go (fun _ => ?_) (fun _ => ?_)
    | refine draw_go hT hP mixed ?_
    | refine round_go hT hP ?_
  all_goals first
    | exact rfl
    | exact of_decide_eq_true rfl
    | (refine .mk [] [] _ rfl rfl rfl rfl rfl rfl (imm_int ?_)
       show IntKind.i64.wrap (IntKind.i64.wrap (s6 N * 256) + s7 N) = s6 N * 256 + s7 N
       rw [w64 (x := s6 N * 256) (by omega) (by omega), w64 (by omega) (by omega)])

def snextF (N : List Int) : Int := if s1 N = 0 then 100000 else s1 N - 1
def snextS : PSpec := ⟨[gD], fun (d, _) => (none, I (snextF d.1), [])⟩
theorem snext_ok : Good Try.prog 34 snextS.spec := by
  have hT := tab_ok (fs := [(90, sfitS.spec)]) tree_ok
  have hP : SpecsOk Try.prog (tab tree [(90, sfitS.spec)]) := specs_cons sfit_ok specs_nil
  refine snextS.good (fn := Try.f34) hT hP Try.func34 (by kernel_rfl) rfl fun (d : Dv) _ => ?_
  obtain ⟨N, M⟩ := d
  obtain ⟨h0, h1, h2, h3, h4, h5, h6, h7⟩ := sR N
  repeat' first
    | (refine Go.mk ?_; conv => whnf)
    | refine Need.go ?_ ?_
    | refine NilG.go (fun _ => ?_) (fun _ => ?_)
    | refine Br.dec (fun _ => ?_) (fun _ => ?_)
    | refine Br.go (fun _ => ?_) (fun _ => ?_)
    | refine draw_go hT hP mixed ?_
    | refine round_go hT hP ?_
  all_goals first
    | exact of_decide_eq_true rfl
    | (rename_i h
       have h : s1 N = 0 := h
       refine .mk [] [] _ rfl rfl rfl rfl rfl rfl (imm_int ?_)
       show _ = snextF N
       rw [snextF, if_pos h])
    | (rename_i h
       have h : ¬ s1 N = 0 := h
       refine .mk [] [] _ rfl rfl rfl rfl rfl rfl (imm_int ?_)
       show IntKind.i64.wrap (s1 N - 1) = snextF N
       rw [snextF, if_neg h, w64 (by omega) (by omega)])

def srestsS : PSpec := ⟨[gC, gD], fun (c, d, _) => (some (c = serC), I (snextF d.1), [])⟩
theorem srests_ok : Good Try.prog 35 srestsS.spec := by
  have hT := tab_ok (fs := [(15, sformedS.spec)]) tree_ok
  have hP : SpecsOk Try.prog (tab tree [(15, sformedS.spec)]) := specs_cons sformed_ok specs_nil
  refine srestsS.good (fn := Try.f35) hT hP Try.func35 (by kernel_rfl) rfl fun (c : Cv) (d : Dv) hp => ?_
  have hp : c = serC := hp _ rfl
  subst hp
  obtain ⟨N, M⟩ := d
  obtain ⟨h0, h1, h2, h3, h4, h5, h6, h7⟩ := sR N
  repeat' first
    | (refine Go.mk ?_; conv => whnf)
    | refine Need.go ?_ ?_
    | refine NilG.go (fun _ => ?_) (fun _ => ?_)
    | refine Br.dec (fun _ => ?_) (fun _ => ?_)
    | refine Br.go (fun _ => ?_) (fun _ => ?_)
    | refine draw_go hT hP mixed ?_
    | refine round_go hT hP ?_
  all_goals first
    | exact rfl
    | exact of_decide_eq_true rfl
    | (rename_i h
       have h : s1 N > 0 := h
       refine .mk [] [] _ rfl rfl rfl rfl rfl rfl (imm_int ?_)
       show IntKind.i64.wrap (s1 N - 1) = snextF N
       rw [snextF, if_neg (by omega), w64 (by omega) (by omega)])
    | (rename_i h
       have h : ¬ s1 N > 0 := h
       refine .mk [] [] _ rfl rfl rfl rfl rfl rfl (imm_int ?_)
       show _ = snextF N
       rw [snextF, if_pos (by omega)])

def saS : PSpec := ⟨[gD, gi, gi], fun (d, a, k, _) => (none, .cell (bv true), [])⟩
theorem sa_ok : Good Try.prog 4 saS.spec := by
  have hT := tab_ok (fs := [(21, serialsS.spec), (18, sameS.spec), (22, snewS.spec), (23, sfreshS.spec), (24, sreadS.spec), (25, sloadedS.spec), (26, swriteS.spec), (27, sstoredS.spec), (28, sinS.spec), (29, sgivenS.spec), (30, sirqS.spec), (31, saskS.spec), (32, soutS.spec), (33, sshowsS.spec), (34, snextS.spec), (35, srestsS.spec)]) tree_ok
  have hP : SpecsOk Try.prog (tab tree [(21, serialsS.spec), (18, sameS.spec), (22, snewS.spec), (23, sfreshS.spec), (24, sreadS.spec), (25, sloadedS.spec), (26, swriteS.spec), (27, sstoredS.spec), (28, sinS.spec), (29, sgivenS.spec), (30, sirqS.spec), (31, saskS.spec), (32, soutS.spec), (33, sshowsS.spec), (34, snextS.spec), (35, srestsS.spec)]) := specs_cons serials_ok (specs_cons same_ok (specs_cons snew_ok (specs_cons sfresh_ok (specs_cons sread_ok (specs_cons sloaded_ok (specs_cons swrite_ok (specs_cons sstored_ok (specs_cons sin_ok (specs_cons sgiven_ok (specs_cons sirq_ok (specs_cons sask_ok (specs_cons sout_ok (specs_cons sshows_ok (specs_cons snext_ok (specs_cons srests_ok specs_nil)))))))))))))))
  refine saS.good (fn := Try.f4) hT hP Try.func4 (by kernel_rfl) rfl fun (d : Dv) (a k : Int) _ => ?_
  obtain ⟨N, M⟩ := d
  repeat' first
    | (refine Go.mk ?_; conv => whnf)
    | refine Need.go ?_ ?_
    | refine NilG.go (fun _ => ?_) (fun _ => ?_)
    | refine Br.dec (fun _ => ?_) (fun _ => ?_)
    | refine Br.go (fun _ => ?_) (fun _ => ?_)
    | refine draw_go hT hP mixed ?_
    | refine round_go hT hP ?_
  all_goals first
    | exact rfl
    | exact of_decide_eq_true rfl
    | (exfalso; rename_i h; simp at h; done)
    | (refine .mk [] [] _ rfl rfl rfl rfl rfl rfl (imm_bool ?_)
       simp)

end Go.Proofs.Ythpijepbbpcjeaa
