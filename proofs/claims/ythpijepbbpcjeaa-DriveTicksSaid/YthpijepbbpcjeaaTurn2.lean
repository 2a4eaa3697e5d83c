/- The chip that reads and writes disks: cycles, both ways. -/
import Derived.Test.YthpijepbbpcjeaaTurn
import Derived.Test.YthpijepbbpcjeaaDriveActs
namespace Go.Proofs.Ythpijepbbpcjeaa
open Go.Fw
set_option linter.unusedVariables false
set_option linter.unusedSimpArgs false
set_option maxRecDepth 100000

theorem turn0_m {l : List Int} (h : dOk 0 l) : (turnF (l, [])).2 = [] := by
  cases h with
  | mk hk ht hc hs hi hl hd hr ho hx =>
  rename_i k t c s i l d r o x
  rw [turnF]
  by_cases h1 : c > 0
  · rw [if_pos h1]
    by_cases h2 : c > 2 ∧ k = 0
    · rw [if_pos h2]
    · rw [if_neg h2]
      by_cases h3 : l > 1
      · rw [if_pos h3]
      · rw [if_neg h3, doneF_lt (by omega)]
  · rw [if_neg h1]
def ownsR : List V1 → List Blk → Option (List Int) := fun a b => (match a, b with | [.c (.own 0), .c (.ro (.int .u8) [])], [.arr (.int .i64) l] => some l | _, _ => none)
theorem ownsR_ok {a : List V1} {b : List Blk} {x : List Int} (h : ownsR a b = some x) : a = [.c (.own 0), .c (.ro (.int .u8) [])] ∧ b = [.arr (.int .i64) x] := by
  unfold ownsR at h
  split at h
  · injection h with h; subst h; exact ⟨rfl, rfl⟩
  · cases h
def turns0S : WSpec := ⟨List Int, fun _ => [.c (.own 0), .c (.ro (.int .u8) [])], fun s => [.arr (.int .i64) s], ownsR,
  fun s => (some (dOk 0 s ∧ 0 < s.getD 2 0), .tup [], [some (.arr (.int .i64) (turnF (s, [])).1)], [])⟩
set_option maxHeartbeats 8000000 in
theorem turns0_ok : Good Try.prog 84 turns0S.spec := by
  have hT := tab_ok (fs := []) tree_ok
  have hP : SpecsOk Try.prog (tab tree []) := specs_nil
  refine turns0S.good (fn := Try.f84) hT hP Try.func84 (by kernel_rfl) rfl (fun _ _ _ h => ownsR_ok h) fun (l : List Int) hq => ?_
  obtain ⟨hn, hc1⟩ : dOk 0 l ∧ 0 < l.getD 2 0 := hq _ rfl
  cases hn with
  | mk hk ht hc hs hi hl hd hr ho hx =>
  rename_i k t c s i l d r o x
  have hc1 : 0 < c := hc1
  obtain rfl : k = 0 := by omega
  have ewl : l > 1 → IntKind.i64.wrap (l - 1) = l - 1 := fun h => w64 (by omega) (by omega)
  have ewc : IntKind.i64.wrap (c - 1) = c - 1 := w64 (by omega) (by omega)
  have gz0 : [1, -1].getD (IntKind.i64.wrap (1 - 1)).toNat (dflt (.int .i64)) = 1 := rfl
  have gz1 : [1, -1].getD (IntKind.i64.wrap (2 - 1)).toNat (dflt (.int .i64)) = -1 := rfl
  have ewt : IntKind.i64.wrap (t + 1) = t + 1 := w64 (by omega) (by omega)
  have ewt2 : IntKind.i64.wrap (t + -1) = t - 1 := by rw [w64 (by omega) (by omega)]; omega
  by_cases hc3 : c < 3
  · have hc2 : c = 1 ∨ c = 2 := by omega
    rcases hc2 with rfl | rfl
    all_goals
      repeat' first
        | (refine Go.mk ?_; conv => whnf)
        | refine Need.go ?_ ?_
        | refine NilG.go (fun _ => ?_) (fun _ => ?_)
        | refine Br.dec (fun _ => ?_) (fun _ => ?_)
        | refine Br.go (fun _ => ?_) (fun _ => ?_)
        | refine draw_go hT hP mixed ?_
        | refine round_go hT hP ?_
      all_goals first
        | exact of_decide_eq_true rfl
        | skip
      all_goals (try refine .mk [] [0] _ rfl rfl rfl rfl rfl (blk_eqs ?_) rfl)
      all_goals clear hT hP hq
      all_goals (try simp only [castL_eq] at *)
      all_goals (simp only [Int.reduceToNat, List.set_cons_succ, List.set_cons_zero, List.getD_cons_succ, List.getD_cons_zero, gz0, gz1, ewt, ewt2] at *)
      all_goals (simp_all [turnF, doneF, toI])
      all_goals ((repeat' split) <;> first | rfl | (exfalso; omega))
  · have hc2 : c = 3 ∨ c = 4 := by omega
    rcases hc2 with rfl | rfl
    all_goals
      repeat' first
        | (refine Go.mk ?_; conv => whnf)
        | refine Need.go ?_ ?_
        | refine NilG.go (fun _ => ?_) (fun _ => ?_)
        | refine Br.dec (fun _ => ?_) (fun _ => ?_)
        | refine Br.go (fun _ => ?_) (fun _ => ?_)
        | refine draw_go hT hP mixed ?_
        | refine round_go hT hP ?_
      all_goals first
        | exact of_decide_eq_true rfl
        | skip
      all_goals (try refine .mk [] [0] _ rfl rfl rfl rfl rfl (blk_eqs ?_) rfl)
      all_goals clear hT hP hq
      all_goals (try simp only [castL_eq] at *)
      all_goals (simp only [Int.reduceToNat, List.set_cons_succ, List.set_cons_zero, List.getD_cons_succ, List.getD_cons_zero, gz0, gz1, ewt, ewt2] at *)
      all_goals (simp_all [turnF, doneF, toI])

theorem dOkN (N : List Int) (q : Nat) : dOk q (dN N q) := dN_ok N q
theorem u8s_take {M : List Int} (h : u8s M) (n : Nat) : u8s (M.take n) := fun x hx => h x (List.mem_of_mem_take hx)
theorem dM_u8 {M : List Int} (h : u8s M) : u8s (dM M) := u8s_take h _
theorem DOkN (N : List Int) {M : List Int} (h : u8s M) : DOk (qF M) (dN N (qF M), dM M) := ⟨dN_ok N _, dM_len M, dM_u8 h⟩
theorem turn_zero {l m : List Int} (h : l.length = 10) (hc : ¬ l.getD 2 0 > 0) : turnF (l, m) = (l, m) := by
  match l, h with
  | [k, t, c, s, i, l, d, r, o, x], _ =>
    rw [turnF]
    exact if_neg hc
def dtickedR0S : PSpec := ⟨[gC, gD], fun (c, d, _) => (some (c.2.1 = 8 ∧ List.length d.2 ≤ 140737488355328 ∧ qF d.2 = 0), .agg [.own 0, .ro (.int .u8) []], [.arr (.int .i64) (turnF (dN d.1 (qF d.2), [])).1])⟩
theorem dtickedR0_ok : Good Try.prog 16 dtickedR0S.spec := by
  have hT := tab_ok (fs := [(15, dformedR0S.spec), (84, turns0S.spec)]) tree_ok
  have hP : SpecsOk Try.prog (tab tree [(15, dformedR0S.spec), (84, turns0S.spec)]) := specs_cons dformedR0_ok (specs_cons turns0_ok specs_nil)
  refine dtickedR0S.good (fn := Try.f16) hT hP Try.func16 (by kernel_rfl) rfl fun (c : Cv) (d : Dv) hp => ?_
  obtain ⟨cn, ck, cb, cs, cd⟩ := c
  obtain ⟨N, M⟩ := d
  obtain ⟨rfl, hl, h0⟩ : ck = 8 ∧ M.length ≤ 140737488355328 ∧ qF M = 0 := hp _ rfl
  have hn : dOk 0 (dN N (qF M)) := by rw [h0]; exact dN_ok N 0
  clear hp
  repeat' first
    | (refine Go.mk ?_; conv => whnf)
    | refine Need.go ?_ ?_
    | refine NilG.go (fun _ => ?_) (fun _ => ?_)
    | refine Br.dec (fun _ => ?_) (fun _ => ?_)
    | refine Br.go (fun _ => ?_) (fun _ => ?_)
    | refine draw_go hT hP mixed ?_
    | refine round_go hT hP ?_
  all_goals first
    | exact ⟨rfl, hl, h0⟩
    | exact of_decide_eq_true rfl
    | skip
  · rename_i h
    exact ⟨hn, h⟩
  · exact .mk [] [3] _ rfl rfl rfl rfl rfl (blk_eqs (by show _ = (turnF (dN N (qF M), [])).1; rfl)) rfl
  · rename_i h
    exact .mk [] [3] _ rfl rfl rfl rfl rfl (blk_eqs (congrArg Prod.fst (turn_zero (l := dN N (qF M)) (m := []) rfl h)).symm) rfl

def dtickedR1S : PSpec := ⟨[gC, gD], fun (c, d, _) => (some (c.2.1 = 8 ∧ List.length d.2 ≤ 140737488355328 ∧ 0 < qF d.2 ∧ u8s d.2), .agg [.own 0, .ro (.int .u8) (turnF (dN d.1 (qF d.2), dM d.2)).2], [.arr (.int .i64) (turnF (dN d.1 (qF d.2), dM d.2)).1])⟩
theorem dtickedR1_ok : Good Try.prog 16 dtickedR1S.spec := by
  have hT := tab_ok (fs := [(15, dformed1S.spec), (84, turnsS.spec)]) tree_ok
  have hP : SpecsOk Try.prog (tab tree [(15, dformed1S.spec), (84, turnsS.spec)]) := specs_cons dformed1_ok (specs_cons turns_ok specs_nil)
  refine dtickedR1S.good (fn := Try.f16) hT hP Try.func16 (by kernel_rfl) rfl fun (c : Cv) (d : Dv) hp => ?_
  obtain ⟨cn, ck, cb, cs, cd⟩ := c
  obtain ⟨N, M⟩ := d
  obtain ⟨rfl, hl, h0, hu⟩ : ck = 8 ∧ M.length ≤ 140737488355328 ∧ 0 < qF M ∧ u8s M := hp _ rfl
  have hn := DOkN N hu
  clear hp
  repeat' first
    | (refine Go.mk ?_; conv => whnf)
    | refine Need.go ?_ ?_
    | refine NilG.go (fun _ => ?_) (fun _ => ?_)
    | refine Br.dec (fun _ => ?_) (fun _ => ?_)
    | refine Br.go (fun _ => ?_) (fun _ => ?_)
    | refine draw_go hT hP mixed ?_
    | refine round_go hT hP ?_
  all_goals first
    | exact ⟨rfl, hl, h0⟩
    | exact of_decide_eq_true rfl
    | skip
  · rename_i h
    exact ⟨⟨_, hn⟩, h⟩
  · exact .mk [4] [3] _ rfl rfl rfl rfl rfl (blk_eqs rfl) (agg_ro rfl)
  · rename_i h
    exact .mk [4] [3] _ rfl rfl rfl rfl rfl (blk_eqs (congrArg Prod.fst (turn_zero (l := dN N (qF M)) (m := dM M) rfl h)).symm) (agg_ro (congrArg Prod.snd (turn_zero (l := dN N (qF M)) (m := dM M) rfl h)).symm)

def dtickedS : PSpec := ⟨[gC, gD], fun (c, d, _) => (some (c.2.1 = 8 ∧ List.length d.2 ≤ 140737488355328 ∧ u8s d.2), .agg [.own 0, .ro (.int .u8) (turnF (dN d.1 (qF d.2), dM d.2)).2], [.arr (.int .i64) (turnF (dN d.1 (qF d.2), dM d.2)).1])⟩
theorem dticked_ok : Good Try.prog 16 dtickedS.spec := by
  refine Good.cases dtickedR0_ok dtickedR1_ok fun (c, d, _) hp => ?_
  obtain ⟨hk, hl, hu⟩ : c.2.1 = 8 ∧ List.length d.2 ≤ 140737488355328 ∧ u8s d.2 := hp _ rfl
  by_cases h : qF d.2 = 0
  · left
    refine ⟨fun q hq => ?_, ?_⟩
    · injection hq with hq
      subst hq
      exact ⟨hk, hl, h⟩
    · have e : dM d.2 = [] := by unfold dM; rw [h]; rfl
      have hn : dOk 0 (dN d.1 (qF d.2)) := by rw [h]; exact dN_ok _ 0
      show (AV.agg [.own 0, .ro (.int .u8) []], [Blk.arr (.int .i64) (turnF (dN d.1 (qF d.2), [])).1]) = (AV.agg [.own 0, .ro (.int .u8) (turnF (dN d.1 (qF d.2), dM d.2)).2], [Blk.arr (.int .i64) (turnF (dN d.1 (qF d.2), dM d.2)).1])
      rw [e, turn0_m hn]
  · right
    refine ⟨fun q hq => ?_, rfl⟩
    injection hq with hq
    subst hq
    exact ⟨hk, hl, Nat.pos_of_ne_zero h, hu⟩

def skipD (k : Int) (s : DS) : DS := iterA turnF k.toNat s
def dskipS : PSpec := ⟨[gD, gi], fun (d, k, _) => (some (List.length d.2 ≤ 140737488355328 ∧ u8s d.2 ∧ k ≤ 1500), .agg [.own 0, .own 1], [.arr (.int .i64) (skipD k (dN d.1 (qF d.2), dM d.2)).1, .arr (.int .u8) (skipD k (dN d.1 (qF d.2), dM d.2)).2])⟩
set_option maxHeartbeats 8000000 in
theorem dskip_ok : Good Try.prog 52 dskipS.spec := by
  have hT := tab_ok (fs := [(109, dfitS.spec), (110, doneS.spec)]) tree_ok
  have hP : SpecsOk Try.prog (tab tree [(109, dfitS.spec), (110, doneS.spec)]) := specs_cons dfit_ok (specs_cons done_ok specs_nil)
  refine dskipS.good (fn := Try.f52) hT hP Try.func52 (by kernel_rfl) rfl fun (d : Dv) (k : Int) hp => ?_
  obtain ⟨N, M⟩ := d
  obtain ⟨hl, hu, hk⟩ : M.length ≤ 140737488355328 ∧ u8s M ∧ k ≤ 1500 := hp _ rfl
  have hn := DOkN N hu
  clear hp
  repeat' first
    | (refine Go.mk ?_; conv => whnf)
    | refine Need.go ?_ ?_
    | refine NilG.go (fun _ => ?_) (fun _ => ?_)
    | refine Br.dec (fun _ => ?_) (fun _ => ?_)
    | refine Br.go (fun _ => ?_) (fun _ => ?_)
    | refine draw_go hT hP mixed ?_
    | refine round_go hT hP ?_
  all_goals first
    | exact hl
    | exact of_decide_eq_true rfl
    | skip
  refine loop_go hT hP (X := Int × DS) (fun (n, s) => St.mk [.dead, I n, .dead, .dead, .cell (.ptr 0 0), .cell (.own 1), .cell (.own 2), .dead, .dead, .dead, .dead, .dead, .dead, .dead, .dead, .dead, .dead, .dead, .dead, .dead, .dead, .dead, .dead, .dead, .dead, .dead, .dead, .dead, .dead, .dead, .dead, .dead, .dead, .dead, .dead, .dead, .dead, .dead, .dead, .dead, .dead, .dead, .dead, .dead, .dead, .dead, .dead, .dead, .dead, .dead, .dead, .dead, .dead, .dead, .dead, .dead, .dead] [some (.var [.imm (.slice none 0 0), .imm (.slice none 0 0)]), some (.arr (.int .i64) s.1), some (.arr (.int .u8) s.2)])
    (fun (n, s) => DOk (qF M) s ∧ iterA turnF n.toNat s = skipD k (dN N (qF M), dM M) ∧ n ≤ 1500) (fun (n, _) => n.toNat) (k, (dN N (qF M), dM M)) (Le.mk [] [1, 2, 3] rfl rfl ?_ ?_) ?_ fun (n, s) hi => ?_
  · exact rfl
  · repeat' first | exact trivial | exact ⟨rfl, rfl⟩ | refine And.intro ?_ ?_
  · exact ⟨hn, rfl, hk⟩
  obtain ⟨l, m⟩ := s
  obtain ⟨⟨hn', hm', hu'⟩, he, hk'⟩ := hi
  have hm' : m.length = qF M * 256 := hm'
  have hu' : u8s m := hu'
  have hn' : dOk (qF M) l := hn'
  have hD : DOk (qF M) (l, m) := ⟨hn', hm', hu'⟩
  cases hn' with
  | mk hk ht hc hs hi hl hd hr ho hx =>
  rename_i k t c s i l d r o x
  repeat' first
    | (refine Go.mk ?_; conv => whnf)
    | refine Need.go ?_ ?_
    | refine NilG.go (fun _ => ?_) (fun _ => ?_)
    | refine Br.dec (fun _ => ?_) (fun _ => ?_)
    | refine Br.go (fun _ => ?_) (fun _ => ?_)
    | refine draw_go hT hP mixed ?_
    | refine round_go hT hP ?_
  all_goals first
    | exact of_decide_eq_true rfl
    | skip
  all_goals clear hT hP
  all_goals (try simp only [castL_eq] at *)
  all_goals (try simp only [Int.reduceToNat, List.set_cons_succ, List.set_cons_zero, List.getD_cons_succ, List.getD_cons_zero] at *)
  · rename_i h1 h2 h3 h4
    have e := (skip_none (t := t) (s := s) (i := i) (l := l) (d := d) (r := r) (o := o) (x := x) (m := m) (c := c) (k := k) (n := n.toNat) (by omega) h4 (by omega)).symm.trans he
    exact .mk [] [1, 2] _ rfl rfl rfl rfl rfl (blk_d (congrArg Prod.fst e) (congrArg Prod.snd e)) rfl
  · rename_i h1 h2 h3 h4 h5
    have e := (skip_wait (t := t) (s := s) (i := i) (d := d) (r := r) (o := o) (x := x) (m := m) (c := c) (k := k) h2 (fun h => h4 h.2) n.toNat l (by omega)).symm.trans he
    rw [show l - (n.toNat : Int) = IntKind.i64.wrap (l - n) by rw [w64 (by omega) (by omega)]; omega] at e
    exact .mk [] [1, 2] _ rfl rfl rfl rfl rfl (blk_d (congrArg Prod.fst e) (congrArg Prod.snd e)) rfl
  · rename_i h1 h2 h3 h4 h5
    exact ⟨⟨qF M, ⟨hk, ht, hc, hs, hi, by omega, hd, hr, ho, hx⟩, hm', hu'⟩, h2, fun _ => by show 0 < k; omega, rfl⟩
  · rename_i h1 h2 h3 h4 h5
    have hd0 : DOk (qF M) ([k, t, c, s, i, 0, d, r, o, x], m) := ⟨⟨hk, ht, hc, hs, hi, by omega, hd, hr, ho, hx⟩, hm', hu'⟩
    have e := (skip_done (t := t) (s := s) (i := i) (l := l) (d := d) (r := r) (o := o) (x := x) (m := m) (c := c) (k := k) (n := n.toNat) h2 (fun h => h4 h.2) hl.1 (by omega) (by omega)).symm.trans he
    have e2 : IntKind.i64.wrap (n - imax 1 l) = (n.toNat : Int) - max 1 l := by rw [imax_eq, w64 (by omega) (by omega)]; omega
    apply Exists.intro (_, _, _)
    refine And.intro ?_ (And.intro ?_ (Le.mk [] [0, 1, 2] rfl rfl ?hh ?ht))
    case hh => exact rfl
    case ht => repeat' first | exact trivial | exact ⟨rfl, rfl⟩ | refine And.intro ?_ ?_
    · refine ⟨doneF_ok hd0, ?_, ?_⟩
      · show iterA turnF (IntKind.i64.wrap (n - imax 1 l)).toNat (doneF ([k, t, c, s, i, 0, d, r, o, x], m)) = _
        rw [e2]; exact e
      · show IntKind.i64.wrap (n - imax 1 l) ≤ 1500
        rw [e2]; omega
    · show (IntKind.i64.wrap (n - imax 1 l)).toNat < n.toNat
      rw [e2]; omega
  · rename_i h1 h2 h3 h4
    have e := (skip_wait (t := t) (s := s) (i := i) (d := d) (r := r) (o := o) (x := x) (m := m) (c := c) (k := k) h2 (fun h => h3 (by omega)) n.toNat l (by omega)).symm.trans he
    rw [show l - (n.toNat : Int) = IntKind.i64.wrap (l - n) by rw [w64 (by omega) (by omega)]; omega] at e
    exact .mk [] [1, 2] _ rfl rfl rfl rfl rfl (blk_d (congrArg Prod.fst e) (congrArg Prod.snd e)) rfl
  · rename_i h1 h2 h3 h4
    exact ⟨⟨qF M, ⟨hk, ht, hc, hs, hi, by omega, hd, hr, ho, hx⟩, hm', hu'⟩, h2, fun h => absurd h (by show ¬ 2 < c; omega), rfl⟩
  · rename_i h1 h2 h3 h5
    have hd0 : DOk (qF M) ([k, t, c, s, i, 0, d, r, o, x], m) := ⟨⟨hk, ht, hc, hs, hi, by omega, hd, hr, ho, hx⟩, hm', hu'⟩
    have e := (skip_done (t := t) (s := s) (i := i) (l := l) (d := d) (r := r) (o := o) (x := x) (m := m) (c := c) (k := k) (n := n.toNat) h2 (fun h => h3 (by omega)) hl.1 (by omega) (by omega)).symm.trans he
    have e2 : IntKind.i64.wrap (n - imax 1 l) = (n.toNat : Int) - max 1 l := by rw [imax_eq, w64 (by omega) (by omega)]; omega
    apply Exists.intro (_, _, _)
    refine And.intro ?_ (And.intro ?_ (Le.mk [] [0, 1, 2] rfl rfl ?hh ?ht))
    case hh => exact rfl
    case ht => repeat' first | exact trivial | exact ⟨rfl, rfl⟩ | refine And.intro ?_ ?_
    · refine ⟨doneF_ok hd0, ?_, ?_⟩
      · show iterA turnF (IntKind.i64.wrap (n - imax 1 l)).toNat (doneF ([k, t, c, s, i, 0, d, r, o, x], m)) = _
        rw [e2]; exact e
      · show IntKind.i64.wrap (n - imax 1 l) ≤ 1500
        rw [e2]; omega
    · show (IntKind.i64.wrap (n - imax 1 l)).toNat < n.toNat
      rw [e2]; omega
  · rename_i h1 h2
    have e := (skip_idle (t := t) (s := s) (i := i) (l := l) (d := d) (r := r) (o := o) (x := x) (m := m) (c := c) (k := k) h2 n.toNat).symm.trans he
    exact .mk [] [1, 2] _ rfl rfl rfl rfl rfl (blk_d (congrArg Prod.fst e) (congrArg Prod.snd e)) rfl
  · rename_i h1
    rw [show n.toNat = 0 by omega, iterA] at he
    exact .mk [] [1, 2] _ rfl rfl rfl rfl rfl (blk_d (congrArg Prod.fst he) (congrArg Prod.snd he)) rfl

def dtickS : PSpec := ⟨[gD], fun (d, _) => (some (List.length d.2 ≤ 140737488355328 ∧ u8s d.2), .agg [.own 0, .own 1], [.arr (.int .i64) (turnF (dN d.1 (qF d.2), dM d.2)).1, .arr (.int .u8) (turnF (dN d.1 (qF d.2), dM d.2)).2])⟩
theorem dtick_ok : Good Try.prog 51 dtickS.spec := by
  have hT := tab_ok (fs := [(52, dskipS.spec)]) tree_ok
  have hP : SpecsOk Try.prog (tab tree [(52, dskipS.spec)]) := specs_cons dskip_ok specs_nil
  refine dtickS.good (fn := Try.f51) hT hP Try.func51 (by kernel_rfl) rfl fun (d : Dv) hp => ?_
  obtain ⟨N, M⟩ := d
  obtain ⟨hl, hu⟩ : M.length ≤ 140737488355328 ∧ u8s M := hp _ rfl
  clear hp
  repeat' first
    | (refine Go.mk ?_; conv => whnf)
    | refine Need.go ?_ ?_
    | refine NilG.go (fun _ => ?_) (fun _ => ?_)
    | refine Br.dec (fun _ => ?_) (fun _ => ?_)
    | refine Br.go (fun _ => ?_) (fun _ => ?_)
    | refine draw_go hT hP mixed ?_
    | refine round_go hT hP ?_
  all_goals first
    | exact ⟨hl, hu, by decide⟩
    | exact .mk [] [2, 3] _ rfl rfl rfl rfl rfl rfl rfl
    | exact of_decide_eq_true rfl
    | skip
  all_goals trace_state

end Go.Proofs.Ythpijepbbpcjeaa
