/- The chip that reads and writes disks: what is done when its time has come. -/
import Derived.Test.YthpijepbbpcjeaaTurnLaw
namespace Go.Proofs.Ythpijepbbpcjeaa
open Go.Fw
set_option linter.unusedVariables false
set_option linter.unusedSimpArgs false
set_option maxRecDepth 100000

theorem wrap8b {x : Int} (h : 0 ≤ x ∧ x < 256) : IntKind.u8.wrap x = x := by
  show x % 256 = x
  omega
theorem blk_d {l l' m m' : List Int} (h : l = l') (h2 : m = m') : [some (Blk.arr (.int .i64) l), some (Blk.arr (.int .u8) m)] = [some (Blk.arr (.int .i64) l'), some (Blk.arr (.int .u8) m')] := by rw [h, h2]
def placeDS : PSpec := ⟨[gl], fun (l, _) => (some (∃ q, dOk q l), I (placeDF l), [])⟩
theorem placeD_ok : Good Try.prog 146 placeDS.spec := by
  have hT := tab_ok (fs := []) tree_ok
  have hP : SpecsOk Try.prog (tab tree []) := specs_nil
  refine placeDS.good (fn := Try.f146) hT hP Try.func146 (by kernel_rfl) rfl fun (l : List Int) hq => ?_
  obtain ⟨q, hp⟩ : ∃ q, dOk q l := hq _ rfl
  cases hp with
  | mk hk ht hc hs hi hl hd hr ho hx =>
  rename_i k t c s i l d r o x
  repeat' first
    | (refine Go.mk ?_; conv => whnf)
    | refine Need.go ?_ ?_
    | refine NilG.go (fun _ => ?_) (fun _ => ?_)
    | refine Br.dec (fun _ => ?_) (fun _ => ?_)
    | refine Br.go (fun _ => ?_) (fun _ => ?_)
    | refine draw_go hT hP mixed ?_
    | refine round_go hT hP ?_
  all_goals first
    | exact of_decide_eq_true rfl
    | (refine .mk [] [] _ rfl rfl rfl rfl rfl rfl (imm_int ?_)
       show IntKind.i64.wrap (IntKind.i64.wrap (IntKind.i64.wrap (IntKind.i64.wrap (k - 1) * 256) + IntKind.i64.wrap (IntKind.i64.wrap (IntKind.i64.wrap (t * 4) + s) * 16)) + i) = atI k t s i
       rw [w64 (x := k - 1) (by omega) (by omega), w64 (x := t * 4) (by omega) (by omega), w64 (x := (k - 1) * 256) (by omega) (by omega), w64 (x := t * 4 + s) (by omega) (by omega), w64 (x := (t * 4 + s) * 16) (by omega) (by omega),
         w64 (x := (k - 1) * 256 + (t * 4 + s) * 16) (by omega) (by omega), w64 (by omega) (by omega)]
       unfold atI; omega)
    | skip

def ownsD : List V1 → List Blk → Option DS := fun a b => (match a, b with | [.c (.own 0), .c (.own 1)], [.arr (.int .i64) l, .arr (.int .u8) m] => some (l, m) | _, _ => none)
theorem ownsD_ok {a : List V1} {b : List Blk} {x : DS} (h : ownsD a b = some x) : a = [.c (.own 0), .c (.own 1)] ∧ b = [.arr (.int .i64) x.1, .arr (.int .u8) x.2] := by
  unfold ownsD at h
  split at h
  · injection h with h; subst h; exact ⟨rfl, rfl⟩
  · cases h
theorem atI_w {k t s i : Int} (h : -256 ≤ atI k t s i ∧ atI k t s i < 65536) : IntKind.i64.wrap (atI k t s i) = atI k t s i := w64 (by omega) (by omega)
theorem pl_eq (k t c s i l d r o x : Int) : placeDF [k, t, c, s, i, l, d, r, o, x] = atI k t s i := rfl
theorem toI_drive {c t : Int} (ht : 0 ≤ t ∧ t < 4) (hc : c = 1 ∨ c = 2) : imax 0 (imin (IntKind.i64.wrap (IntKind.i64.wrap (t + 3) - IntKind.i64.wrap (2 * c))) 3) = toI c t := by
  rw [w64 (x := t + 3) (by omega) (by omega), w64 (x := 2 * c) (by omega) (by omega), w64 (by omega) (by omega)]
  unfold toI imax imin
  (repeat' split) <;> omega
def doneS : WSpec := ⟨DS, fun _ => [.c (.own 0), .c (.own 1)], fun s => [.arr (.int .i64) s.1, .arr (.int .u8) s.2], ownsD,
  fun s => (some ((∃ q, DOk q s) ∧ canDo s), .tup [], [some (.arr (.int .i64) (doneF s).1), some (.arr (.int .u8) (doneF s).2)], [])⟩
set_option maxHeartbeats 8000000 in
theorem done_ok : Good Try.prog 110 doneS.spec := by
  have hT := tab_ok (fs := [(146, placeDS.spec)]) tree_ok
  have hP : SpecsOk Try.prog (tab tree [(146, placeDS.spec)]) := specs_cons placeD_ok specs_nil
  refine doneS.good (fn := Try.f110) hT hP Try.func110 (by kernel_rfl) rfl (fun _ _ _ h => ownsD_ok h) fun ((l, m) : DS) hq => ?_
  obtain ⟨⟨q, hn, hm, hu⟩, hc1, hc2, hc3⟩ : (∃ q, DOk q (l, m)) ∧ canDo (l, m) := hq _ rfl
  have hm : m.length = q * 256 := hm
  have hu : u8s m := hu
  have hn : dOk q l := hn
  cases hn with
  | mk hk ht hc hs hi hl hd hr ho hx =>
  rename_i k t c s i l d r o x
  have hc1 : 0 < c := hc1
  have hc2 : 2 < c → 0 < k := hc2
  have hc3 : l = 0 := hc3
  subst hc3
  have hb := u8s_get hu (atI k t s i).toNat
  have hb : 0 ≤ m.getD (atI k t s i).toNat 0 ∧ m.getD (atI k t s i).toNat 0 < 256 := hb
  have hor := or1 ho hr
  have hoo : 0 ≤ lor .i64 o r ∧ lor .i64 o r < 2 := by rw [hor]; split <;> omega
  have hn1 : dOk q [k, t, c, s, i, 0, d, r, lor .i64 o r, x] := ⟨hk, ht, hc, hs, hi, by omega, hd, hr, hoo, hx⟩
  have hat : 0 < k → 0 ≤ atI k t s i ∧ atI k t s i < (m.length : Int) := fun h => by rw [hm]; exact atI_in ⟨h, hk.2.1⟩ ht hs hi
  have ewi : IntKind.i64.wrap (i + 1) = i + 1 := w64 (by omega) (by omega)
  have ewd := wrap8b hd
  have ewb : IntKind.i64.wrap (m.getD (atI k t s i).toNat 0) = m.getD (atI k t s i).toNat 0 := w64 (by omega) (by omega)
  have ep : placeDF [k, t, c, s, i, 0, d, r, lor .i64 o r, x] = atI k t s i := rfl
  repeat' first
    | (refine Go.mk ?_; conv => whnf)
    | refine Need.go ?_ ?_
    | refine NilG.go (fun _ => ?_) (fun _ => ?_)
    | refine Br.dec (fun _ => ?_) (fun _ => ?_)
    | refine Br.go (fun _ => ?_) (fun _ => ?_)
    | refine draw_go hT hP mixed ?_
    | refine round_go hT hP ?_
  all_goals first
    | exact of_decide_eq_true rfl
    | exact ⟨q, hn1⟩
    | skip
  all_goals (try refine .mk [] [0, 1] _ rfl rfl rfl rfl rfl (blk_d ?_ ?_) rfl)
  all_goals clear hT hP hq
  all_goals (simp only [castL_eq] at *)
  all_goals (simp only [Int.reduceToNat, List.set_cons_succ, List.set_cons_zero, List.getD_cons_succ, List.getD_cons_zero, pl_eq] at *)
  all_goals (try simp only [pl_eq, hor, ewi, ewd] at *)
  all_goals (try exact hat (hc2 (by omega)))
  all_goals (try (have := hat (hc2 (by omega)); omega))
  all_goals (try rw [toI_drive ht (by omega)])
  all_goals (try simp_all [doneF])
  all_goals (rw [if_neg (show ¬ c < 3 by omega)])

def turnsS : WSpec := ⟨DS, fun _ => [.c (.own 0), .c (.own 1)], fun s => [.arr (.int .i64) s.1, .arr (.int .u8) s.2], ownsD,
  fun s => (some ((∃ q, DOk q s) ∧ 0 < s.1.getD 2 0), .tup [], [some (.arr (.int .i64) (turnF s).1), some (.arr (.int .u8) (turnF s).2)], [])⟩
theorem toI_ref {c t : Int} (ht : 0 ≤ t ∧ t < 4) (hc : c = 1 ∨ c = 2) : IntKind.i64.wrap (t + [1, -1].getD (c - 1).toNat (dflt (.int .i64))) = if c = 1 then t + 1 else t - 1 := by
  rcases hc with rfl | rfl
  · show IntKind.i64.wrap (t + 1) = _
    rw [w64 (by omega) (by omega)]; rfl
  · show IntKind.i64.wrap (t + -1) = _
    rw [w64 (by omega) (by omega)]; rfl
set_option maxHeartbeats 8000000 in
theorem turns_ok : Good Try.prog 84 turnsS.spec := by
  have hT := tab_ok (fs := []) tree_ok
  have hP : SpecsOk Try.prog (tab tree []) := specs_nil
  refine turnsS.good (fn := Try.f84) hT hP Try.func84 (by kernel_rfl) rfl (fun _ _ _ h => ownsD_ok h) fun ((l, m) : DS) hq => ?_
  obtain ⟨⟨q, hn, hm, hu⟩, hc1⟩ : (∃ q, DOk q (l, m)) ∧ 0 < l.getD 2 0 := hq _ rfl
  have hm : m.length = q * 256 := hm
  have hu : u8s m := hu
  have hn : dOk q l := hn
  cases hn with
  | mk hk ht hc hs hi hl hd hr ho hx =>
  rename_i k t c s i l d r o x
  have hc1 : 0 < c := hc1
  have hb := u8s_get hu (atI k t s i).toNat
  have hb : 0 ≤ m.getD (atI k t s i).toNat 0 ∧ m.getD (atI k t s i).toNat 0 < 256 := hb
  have hat : 0 < k → 0 ≤ atI k t s i ∧ atI k t s i < (m.length : Int) := fun h => by rw [hm]; exact atI_in ⟨h, hk.2.1⟩ ht hs hi
  have ewi : IntKind.i64.wrap (i + 1) = i + 1 := w64 (by omega) (by omega)
  have ewb : IntKind.i64.wrap (m.getD (atI k t s i).toNat 0) = m.getD (atI k t s i).toNat 0 := w64 (by omega) (by omega)
  have ewd := wrap8b hd
  have hA := at_turn ⟨hk.1, hk.2.2⟩ ht hs hi
  have ewl : l > 1 → IntKind.i64.wrap (l - 1) = l - 1 := fun h => w64 (by omega) (by omega)
  have ewc : IntKind.i64.wrap (c - 1) = c - 1 := w64 (by omega) (by omega)
  have etr : c < 3 → IntKind.i64.wrap (t + [1, -1].getD (c - 1).toNat (dflt (.int .i64))) = if c = 1 then t + 1 else t - 1 := fun h => toI_ref ht (by omega)
  repeat' first
    | (refine Go.mk ?_; conv => whnf)
    | refine Need.go ?_ ?_
    | refine NilG.go (fun _ => ?_) (fun _ => ?_)
    | refine Br.dec (fun _ => ?_) (fun _ => ?_)
    | refine Br.go (fun _ => ?_) (fun _ => ?_)
    | refine draw_go hT hP mixed ?_
    | refine round_go hT hP ?_
  all_goals first
    | exact of_decide_eq_true rfl
    | skip
  all_goals (try refine .mk [] [0, 1] _ rfl rfl rfl rfl rfl (blk_d ?_ ?_) rfl)
  all_goals clear hT hP hq
  all_goals (simp only [castL_eq] at *)
  all_goals (simp only [Int.reduceToNat, List.set_cons_succ, List.set_cons_zero, List.getD_cons_succ, List.getD_cons_zero] at *)
  all_goals (try simp only [hA, ewi, ewd, ewc] at *)
  all_goals (try (simp only [List.length_cons, List.length_nil]; omega))
  all_goals (try exact hat (by omega))
  all_goals (try (have := hat (by omega); omega))
  all_goals (try (have h3 : ¬ c < 3 := by assumption))
  all_goals (try simp_all [-List.getD_eq_getElem?_getD, turnF, doneF])
  all_goals (try unfold toI)
  all_goals (try (by_cases h1 : c = 1 <;> simp only [h1, if_true, if_false] at *))
  all_goals (repeat' split)
  all_goals first
    | rfl
    | (exfalso; omega)
    | exact l10 rfl rfl rfl rfl rfl rfl ewb rfl rfl rfl
    | exact l10 rfl (by omega) rfl rfl rfl rfl rfl rfl rfl rfl
    | skip
  all_goals trace_state

end Go.Proofs.Ythpijepbbpcjeaa
