/- The chip that reads and writes disks: forming, a new one, reading. -/
import Derived.Test.YthpijepbbpcjeaaSerial
namespace Go.Proofs.Ythpijepbbpcjeaa
open Go.Fw
set_option linter.unusedVariables false
set_option linter.unusedSimpArgs false
set_option maxRecDepth 100000

theorem over_take (M : List Int) {n : Nat} (h : n ≤ M.length) : over (List.replicate n 0) M 0 = M.take n := by
  rw [over_eq]
  simp [h]
def qF (M : List Int) : Nat := M.length / 256
def dM (M : List Int) : List Int := M.take (qF M * 256)
theorem qF_le (M : List Int) : qF M * 256 ≤ M.length := by unfold qF; omega
theorem dM_len (M : List Int) : (dM M).length = qF M * 256 := by
  unfold dM; rw [List.length_take]; have := qF_le M; omega
theorem qF_int (M : List Int) (h : M.length ≤ 140737488355328) : IntKind.i64.wrap (IntKind.i64.wrap (Int.tdiv (M.length : Int) 256) * 256) = ((qF M * 256 : Nat) : Int) := by
  rw [Int.tdiv_eq_ediv_of_nonneg (by omega), w64 (x := (M.length : Int) / 256) (by omega) (by omega), w64 (by omega) (by omega)]
  unfold qF; omega
def dN (N : List Int) (q : Nat) : List Int :=
  [if N.getD 0 0 % 256 > q then 0 else N.getD 0 0 % 256, N.getD 1 0 % 4, if N.getD 2 0 % 8 > 4 then 0 else N.getD 2 0 % 8, N.getD 3 0 % 4, N.getD 4 0 % 16, N.getD 5 0 % 64, N.getD 6 0 % 256, N.getD 7 0 % 2, N.getD 8 0 % 2, N.getD 9 0 % 2]
def dN0 (N : List Int) : List Int :=
  [N.getD 0 0 % 256, N.getD 1 0 % 4, N.getD 2 0 % 8, N.getD 3 0 % 4, N.getD 4 0 % 16, N.getD 5 0 % 64, N.getD 6 0 % 256, N.getD 7 0 % 2, N.getD 8 0 % 2, N.getD 9 0 % 2]
theorem tup_r2 {x y : Int} (h : x = y) : AV.tup [.agg [.own 0, .own 1], I1 x] = AV.tup [.agg [.own 0, .own 1], I1 y] := by rw [h]
theorem blk2_eq {l l' m m' : List Int} (h : l = l') (h2 : m = m') : [some (Blk.arr (.int .i64) l), some (Blk.arr (.int .u8) m)] = [some (Blk.arr (.int .i64) l'), some (Blk.arr (.int .u8) m')] := by rw [h, h2]

theorem over_get (N : List Int) : ∀ (l : List Int) (i k : Nat), k < l.length → (over l N i).getD k 0 = N.getD (i + k) (l.getD k 0)
  | d :: l, i, 0, _ => by simp [over]
  | d :: l, i, k + 1, h => by
    have := over_get N l (i + 1) k (by simpa using h)
    have e : i + 1 + k = i + (k + 1) := by omega
    rw [e] at this
    simpa [over] using this
theorem rep_get (n k : Nat) : (List.replicate n (0 : Int)).getD k 0 = 0 := by
  rw [List.getD_eq_getElem?_getD, List.getElem?_replicate]
  split <;> rfl
def dL (N : List Int) (x y : Int) : List Int := [x, N.getD 1 0 % 4, y, N.getD 3 0 % 4, N.getD 4 0 % 16, N.getD 5 0 % 64, N.getD 6 0 % 256, N.getD 7 0 % 2, N.getD 8 0 % 2, N.getD 9 0 % 2]
def bitsK (N C ms : List Int) (k : Nat) : List Int := formG N (ms.take k) 0 ++ C.drop k
theorem bitsK_len (N C ms : List Int) {k : Nat} (h : k ≤ ms.length) (hc : C.length = ms.length) : (bitsK N C ms k).length = ms.length := by
  simp [bitsK, formG_len]; omega
theorem bitsK_get (N C ms : List Int) {k : Nat} (h : k < ms.length) (hc : C.length = ms.length) : (bitsK N C ms k).getD k 0 = C.getD k 0 := by
  have hl : (formG N (ms.take k) 0).length = k := by rw [formG_len, List.length_take]; omega
  unfold bitsK
  rw [List.getD_eq_getElem?_getD, List.getElem?_append_right (by omega), hl, Nat.sub_self, List.getElem?_drop, List.getD_eq_getElem?_getD]
  rfl
theorem bitsK_set (N C ms : List Int) {k : Nat} (h : k < ms.length) (hc : C.length = ms.length) : (bitsK N C ms k).set k (N.getD k 0 % ms.getD k 0) = bitsK N C ms (k + 1) := by
  have hl : (formG N (ms.take k) 0).length = k := by rw [formG_len, List.length_take]; omega
  unfold bitsK
  rw [List.set_append, if_neg (by omega), hl, Nat.sub_self, List.drop_eq_getElem_cons (by omega), List.set_cons_zero, formG_take N ms 0 k h]
  simp
def dMods : List Int := [256, 4, 8, 4, 16, 64, 256, 2, 2, 2]
def dBits : List Int := [8, 2, 3, 2, 4, 6, 8, 1, 1, 1]
theorem dBits_ok : ∀ k, k < 10 → (0 ≤ dBits.getD k 0 ∧ dBits.getD k 0 ≤ 62) ∧ (2 : Int) ^ (dBits.getD k 0).toNat = dMods.getD k 0 := by decide +kernel
theorem dN_if (N : List Int) (q : Nat) : dN N q = [if N.getD 0 0 % 256 > q then 0 else N.getD 0 0 % 256, N.getD 1 0 % 4, if N.getD 2 0 % 8 > 4 then 0 else N.getD 2 0 % 8, N.getD 3 0 % 4, N.getD 4 0 % 16, N.getD 5 0 % 64, N.getD 6 0 % 256, N.getD 7 0 % 2, N.getD 8 0 % 2, N.getD 9 0 % 2] := rfl

def dfitS : PSpec := ⟨[gD], fun (d, _) => (some (List.length d.2 ≤ 140737488355328), .tup [.c (.own 0), .c (.own 1)], [.arr (.int .i64) (dN d.1 (qF d.2)), .arr (.int .u8) (dM d.2)])⟩
theorem dfit_ok : Good Try.prog 109 dfitS.spec := by
  have hT := tab_ok (fs := [(94, lowM.spec)]) tree_ok
  have hP : SpecsOk Try.prog (tab tree [(94, lowM.spec)]) := specs_cons lowM_ok specs_nil
  refine dfitS.good (fn := Try.f109) hT hP Try.func109 (by kernel_rfl) rfl fun (d : Dv) hp => ?_
  obtain ⟨N, M⟩ := d
  have hp : M.length ≤ 140737488355328 := hp _ rfl
  have hq := qF_int M hp
  have hq2 := qF_le M
  have hqi : IntKind.i64.wrap (Int.tdiv ((dM M).length : Int) 256) = ((qF M : Nat) : Int) := by
    rw [dM_len, Int.tdiv_eq_ediv_of_nonneg (by omega), w64 (by omega) (by omega)]; omega
  repeat' first
    | (refine Go.mk ?_; conv => whnf)
    | refine Need.go ?_ ?_
    | refine NilG.go (fun _ => ?_) (fun _ => ?_)
    | refine Br.dec (fun _ => ?_) (fun _ => ?_)
    | refine Br.go (fun _ => ?_) (fun _ => ?_)
    | refine draw_go hT hP mixed ?_
    | refine round_go hT hP ?_
  · exact of_decide_eq_true rfl
  have hC : ∀ k, k < 10 → (over (List.replicate 10 0) N 0).getD k 0 = N.getD k 0 := by
    intro k hk
    rw [over_get N _ 0 k (by simpa using hk), Nat.zero_add, rep_get 10 k]
  have hCl : (over (List.replicate 10 0) N 0).length = 10 := by rw [over_length]; rfl
  refine loop_go hT hP (X := Int × List Int) (fun (i, n) => St.mk [.dead, .cell (.ptr 0 0), .dead, .dead, .cell (.own 1), .dead, .dead, .dead, .dead, .dead, .dead, .dead, .dead, .agg [.run .i64 10 [8, 2, 3, 2, 4, 6, 8, 1, 1, 1]], I i, .dead, .dead, .dead, .dead, .dead, .dead, .dead, .dead, .dead, .dead, .dead, .dead, .dead, .dead, .dead, .dead, .dead, .dead, .dead, .dead, .dead, .dead, .dead, .dead, .dead, .dead, .dead, .dead, .dead, .dead, .dead, .dead, .dead, .dead, .dead, .dead, .dead, .dead, .dead, .dead] [some (.var [.ro (.int .i64) N, .ro (.int .u8) M]), some (.arr (.int .i64) n)])
    (fun (i, n) => ∃ k : Nat, i = k ∧ k ≤ 10 ∧ n = bitsK N (over (List.replicate 10 0) N 0) dMods k) (fun (i, _) => (10 - i).toNat) (0, over (List.replicate 10 0) N 0) (Le.mk [] [0, 1] rfl rfl ?_ ?_) ?_ fun (i, n) hi => ?_
  rotate_right
  repeat' first
    | (refine Go.mk ?_; conv => whnf)
    | refine Need.go ?_ ?_
    | refine NilG.go (fun _ => ?_) (fun _ => ?_)
    | refine Br.dec (fun _ => ?_) (fun _ => ?_)
    | refine Br.go (fun _ => ?_) (fun _ => ?_)
    | refine draw_go hT hP mixed ?_
    | refine round_go hT hP ?_
  rotate_right 3
  · exact rfl
  · repeat' first | exact trivial | exact ⟨rfl, rfl⟩ | refine And.intro ?_ ?_
  · exact ⟨0, rfl, by omega, rfl⟩
  all_goals first
    | exact of_decide_eq_true rfl
    | (obtain ⟨k, rfl, hk, rfl⟩ := hi; omega)
    | (obtain ⟨k, rfl, hk, rfl⟩ := hi; rw [bitsK_len _ _ _ hk hCl]; show _ ∧ _ < ((10 : Nat) : Int); omega)
    | (obtain ⟨k, rfl, hk, rfl⟩ := hi; rw [bitsK_len _ _ _ hk hCl]; show _ < 10; omega)
    | skip
  · obtain ⟨k, rfl, hk, rfl⟩ := hi
    exact (dBits_ok k (by omega)).1
  · obtain ⟨k, rfl, hk, rfl⟩ := hi
    have e : IntKind.i64.wrap ((k : Int) + 1) = ((k + 1 : Nat) : Int) := by rw [w64 (by omega) (by omega)]; omega
    have hk2 : k < 10 := by omega
    apply Exists.intro (_, _)
    refine And.intro ?_ (And.intro ?_ (Le.mk [] [0, 1] rfl rfl ?hh ?ht))
    case hh => exact rfl
    case ht => repeat' first | exact trivial | exact ⟨rfl, rfl⟩ | refine And.intro ?_ ?_
    · refine ⟨k + 1, e, by omega, ?_⟩
      show (bitsK N (over (List.replicate 10 0) N 0) dMods k).set k ((bitsK N (over (List.replicate 10 0) N 0) dMods k).getD k 0 % 2 ^ (dBits.getD k 0).toNat) = _
      rw [bitsK_get N _ dMods hk2 hCl, hC k hk2, (dBits_ok k hk2).2]
      exact bitsK_set N _ dMods hk2 hCl
    · show (10 - IntKind.i64.wrap ((k : Int) + 1)).toNat < (10 - (k : Int)).toNat
      rw [e]; omega
  all_goals
    obtain ⟨k, rfl, hk, rfl⟩ := hi
    obtain rfl : k = 10 := by omega
    have hm : over (List.replicate (IntKind.i64.wrap (IntKind.i64.wrap (Int.tdiv (M.length : Int) 256) * 256)).toNat 0) M 0 = dM M := by
      rw [hq]; exact over_take M hq2
    try exact of_decide_eq_true rfl
  · have e : ty5.bytes = 1 := rfl
    rw [e, show (List.length (N, M).2) = M.length from rfl, hq]
    omega
  · rename_i h1 h2
    have h1 : N.getD 0 0 % 256 > IntKind.i64.wrap (Int.tdiv ((over (List.replicate (IntKind.i64.wrap (IntKind.i64.wrap (Int.tdiv (M.length : Int) 256) * 256)).toNat 0) M 0).length : Int) 256) := h1
    have h2 : N.getD 2 0 % 8 > 4 := h2
    rw [hm, hqi] at h1
    refine .mk [] [1, 2] _ rfl rfl rfl rfl rfl (blk2_eq (l := dL N 0 0) (l' := dN N (qF M)) ?_ hm) rfl
    rw [dN_if, if_pos h1, if_pos h2]; rfl
  · rename_i h1 h2
    have h1 : N.getD 0 0 % 256 > IntKind.i64.wrap (Int.tdiv ((over (List.replicate (IntKind.i64.wrap (IntKind.i64.wrap (Int.tdiv (M.length : Int) 256) * 256)).toNat 0) M 0).length : Int) 256) := h1
    have h2 : ¬ N.getD 2 0 % 8 > 4 := h2
    rw [hm, hqi] at h1
    refine .mk [] [1, 2] _ rfl rfl rfl rfl rfl (blk2_eq (l := dL N 0 (N.getD 2 0 % 8)) (l' := dN N (qF M)) ?_ hm) rfl
    rw [dN_if, if_pos h1, if_neg h2]; rfl
  · rename_i h1 h2
    have h1 : ¬ N.getD 0 0 % 256 > IntKind.i64.wrap (Int.tdiv ((over (List.replicate (IntKind.i64.wrap (IntKind.i64.wrap (Int.tdiv (M.length : Int) 256) * 256)).toNat 0) M 0).length : Int) 256) := h1
    have h2 : N.getD 2 0 % 8 > 4 := h2
    rw [hm, hqi] at h1
    refine .mk [] [1, 2] _ rfl rfl rfl rfl rfl (blk2_eq (l := dL N (N.getD 0 0 % 256) 0) (l' := dN N (qF M)) ?_ hm) rfl
    rw [dN_if, if_neg h1, if_pos h2]; rfl
  · rename_i h1 h2
    have h1 : ¬ N.getD 0 0 % 256 > IntKind.i64.wrap (Int.tdiv ((over (List.replicate (IntKind.i64.wrap (IntKind.i64.wrap (Int.tdiv (M.length : Int) 256) * 256)).toNat 0) M 0).length : Int) 256) := h1
    have h2 : ¬ N.getD 2 0 % 8 > 4 := h2
    rw [hm, hqi] at h1
    refine .mk [] [1, 2] _ rfl rfl rfl rfl rfl (blk2_eq (l := dL N (N.getD 0 0 % 256) (N.getD 2 0 % 8)) (l' := dN N (qF M)) ?_ hm) rfl
    rw [dN_if, if_neg h1, if_neg h2]; rfl

def dnewS : PSpec := ⟨[gb], fun (b, _) => (some (List.length b ≤ 140737488355328), .agg [.own 0, .own 1], [.arr (.int .i64) [0, 0, 0, 0, 0, 0, 0, 0, 0, 0], .arr (.int .u8) (dM b)])⟩
theorem dnew_ok : Good Try.prog 53 dnewS.spec := by
  have hT := tab_ok (fs := []) tree_ok
  have hP : SpecsOk Try.prog (tab tree []) := specs_nil
  refine dnewS.good (fn := Try.f53) hT hP Try.func53 (by kernel_rfl) rfl fun (M : List Int) hp => ?_
  have hp : M.length ≤ 140737488355328 := hp _ rfl
  have hq := qF_int M hp
  have hq2 := qF_le M
  repeat' first
    | (refine Go.mk ?_; conv => whnf)
    | refine Need.go ?_ ?_
    | refine NilG.go (fun _ => ?_) (fun _ => ?_)
    | refine Br.dec (fun _ => ?_) (fun _ => ?_)
    | refine Br.go (fun _ => ?_) (fun _ => ?_)
    | refine draw_go hT hP mixed ?_
    | refine round_go hT hP ?_
  all_goals first
    | exact of_decide_eq_true rfl
    | skip
  · have e : ty5.bytes = 1 := rfl
    rw [e, hq]
    omega
  · have hm : over (List.replicate (IntKind.i64.wrap (IntKind.i64.wrap (Int.tdiv (M.length : Int) 256) * 256)).toNat 0) M 0 = dM M := by
      rw [hq]; exact over_take M hq2
    exact .mk [] [2, 1] _ rfl rfl rfl rfl rfl (blk2_eq (l := [0, 0, 0, 0, 0, 0, 0, 0, 0, 0]) rfl hm) rfl

def busyS : PSpec := ⟨[gl], fun (n, _) => (some (2 < List.length n), I (imin 1 (List.getD n 2 0)), [])⟩
theorem busy_ok : Good Try.prog 111 busyS.spec := by
  have hT := tab_ok (fs := []) tree_ok
  have hP : SpecsOk Try.prog (tab tree []) := specs_nil
  refine busyS.good (fn := Try.f111) hT hP Try.func111 (by kernel_rfl) rfl fun (n : List Int) hp => ?_
  have hp : 2 < n.length := hp _ rfl
  repeat' first
    | (refine Go.mk ?_; conv => whnf)
    | refine Need.go ?_ ?_
    | refine NilG.go (fun _ => ?_) (fun _ => ?_)
    | refine Br.dec (fun _ => ?_) (fun _ => ?_)
    | refine Br.go (fun _ => ?_) (fun _ => ?_)
    | refine draw_go hT hP mixed ?_
    | refine round_go hT hP ?_
  · omega
  · exact .mk [] [] _ rfl rfl rfl rfl rfl rfl rfl

/-- reading address 0 of a drive at rest without a disk -/
def dread0S : PSpec := ⟨[gD, gi], fun (d, a, _) => (some (a = 0 ∧ d.1 = [0, 0, 0, 0, 0, 0, 0, 0, 0, 0] ∧ d.2 = List.replicate 256 0), .tup [.agg [.own 0, .own 1], I1 8], [.arr (.int .i64) [0, 0, 0, 0, 0, 0, 0, 0, 0, 0], .arr (.int .u8) (List.replicate 256 0)])⟩
theorem dread0_ok : Good Try.prog 54 dread0S.spec := by
  have hT := tab_ok (fs := [(109, dfitS.spec), (111, busyS.spec)]) tree_ok
  have hP : SpecsOk Try.prog (tab tree [(109, dfitS.spec), (111, busyS.spec)]) := specs_cons dfit_ok (specs_cons busy_ok specs_nil)
  refine dread0S.good (fn := Try.f54) hT hP Try.func54 (by kernel_rfl) rfl fun (d : Dv) (a : Int) hp => ?_
  obtain ⟨N, M⟩ := d
  obtain ⟨rfl, rfl, rfl⟩ : a = 0 ∧ N = [0, 0, 0, 0, 0, 0, 0, 0, 0, 0] ∧ M = List.replicate 256 0 := hp _ rfl
  have hdM : dM (List.replicate 256 (0 : Int)) = List.replicate 256 0 := by decide +kernel
  repeat' first
    | (refine Go.mk ?_; conv => whnf)
    | refine Need.go ?_ ?_
    | refine NilG.go (fun _ => ?_) (fun _ => ?_)
    | refine Br.dec (fun _ => ?_) (fun _ => ?_)
    | refine Br.go (fun _ => ?_) (fun _ => ?_)
    | refine draw_go hT hP mixed ?_
    | refine round_go hT hP ?_
  all_goals first
    | exact rfl
    | exact of_decide_eq_true rfl
    | skip
  exact .mk [] [2, 3] _ rfl rfl rfl rfl rfl (blk2_eq (l := (dN [0, 0, 0, 0, 0, 0, 0, 0, 0, 0] (qF (List.replicate 256 0))).set 8 0) (by decide +kernel) hdM) (tup_r2 (by decide +kernel))

def drivesS : PSpec := ⟨[], fun _ => (none, .cell (bv true), [])⟩
theorem drives_ok : Good Try.prog 50 drivesS.spec := by
  have hT := tab_ok (fs := [(53, dnewS.spec), (54, dread0S.spec)]) tree_ok
  have hP : SpecsOk Try.prog (tab tree [(53, dnewS.spec), (54, dread0S.spec)]) := specs_cons dnew_ok (specs_cons dread0_ok specs_nil)
  refine drivesS.good (fn := Try.f50) hT hP Try.func50 (by kernel_rfl) rfl fun _ => ?_
  have hdM : dM (List.replicate 256 (0 : Int)) = List.replicate 256 0 := by decide +kernel
  repeat' first
    | (refine Go.mk ?_; conv => whnf)
    | refine Need.go ?_ ?_
    | refine NilG.go (fun _ => ?_) (fun _ => ?_)
    | refine Br.dec (fun _ => ?_) (fun _ => ?_)
    | refine Br.go (fun _ => ?_) (fun _ => ?_)
    | refine draw_go hT hP mixed ?_
    | refine round_go hT hP ?_
  · exact of_decide_eq_true rfl
  · exact of_decide_eq_true rfl
  · exact ⟨rfl, rfl, hdM⟩
  · exact .mk [] [] _ rfl rfl rfl rfl rfl rfl rfl

theorem dmods_ok : ([256, 4, 8, 4, 16, 64, 256, 2, 2, 2] : List Int).length ≤ 1000 ∧ ∀ m ∈ ([256, 4, 8, 4, 16, 64, 256, 2, 2, 2] : List Int), 0 < m ∧ m ≤ 4611686018427387904 := by decide
def dformed0S : PSpec := ⟨[gC, gD], fun (c, d, _) => (some (c.2.1 = 8 ∧ List.length d.2 ≤ 140737488355328 ∧ qF d.2 = 0), .agg [.own 0, .imm (.slice none 0 0)], [.arr (.int .i64) (dN d.1 (qF d.2))])⟩
theorem dformed0_ok : Good Try.prog 15 dformed0S.spec := by
  have hT := tab_ok (fs := [(82, formS.spec)]) tree_ok
  have hP : SpecsOk Try.prog (tab tree [(82, formS.spec)]) := specs_cons form_ok specs_nil
  refine dformed0S.good (fn := Try.f15) hT hP Try.func15 (by kernel_rfl) rfl fun (c : Cv) (d : Dv) hp => ?_
  obtain ⟨cn, ck, cb, cs, cd⟩ := c
  obtain ⟨N, M⟩ := d
  obtain ⟨rfl, hl, h0⟩ : ck = 8 ∧ M.length ≤ 140737488355328 ∧ qF M = 0 := hp _ rfl
  have hq := qF_int M hl
  rw [h0] at hq
  repeat' first
    | (refine Go.mk ?_; conv => whnf)
    | refine Need.go ?_ ?_
    | refine NilG.go (fun _ => ?_) (fun _ => ?_)
    | refine Br.dec (fun _ => ?_) (fun _ => ?_)
    | refine Br.go (fun _ => ?_) (fun _ => ?_)
    | refine draw_go hT hP mixed ?_
    | refine round_go hT hP ?_
  all_goals first
    | exact dmods_ok
    | exact of_decide_eq_true rfl
    | skip
  all_goals first
    | (exfalso; rename_i h; have h : IntKind.i64.wrap (IntKind.i64.wrap (Int.tdiv (M.length : Int) 256) * 256) > 0 := h; rw [hq] at h; omega)
    | (rename_i h1 h2 h
       have h1 : IntKind.i64.wrap (N.getD 0 0 % 256 * 256) > IntKind.i64.wrap (IntKind.i64.wrap (Int.tdiv (M.length : Int) 256) * 256) := h1
       have h2 : N.getD 2 0 % 8 > 4 := h2
       rw [hq, w64 (by omega) (by omega)] at h1
       refine .mk [] [5] _ rfl rfl rfl rfl rfl (blk_eqs (l := dL N 0 0) (l' := dN N (qF M)) ?_) rfl
       rw [dN_if, if_pos (by omega), if_pos h2]; rfl)
    | (rename_i h1 h2 h
       have h1 : IntKind.i64.wrap (N.getD 0 0 % 256 * 256) > IntKind.i64.wrap (IntKind.i64.wrap (Int.tdiv (M.length : Int) 256) * 256) := h1
       have h2 : ¬ N.getD 2 0 % 8 > 4 := h2
       rw [hq, w64 (by omega) (by omega)] at h1
       refine .mk [] [5] _ rfl rfl rfl rfl rfl (blk_eqs (l := dL N 0 (N.getD 2 0 % 8)) (l' := dN N (qF M)) ?_) rfl
       rw [dN_if, if_pos (by omega), if_neg h2]; rfl)
    | (rename_i h1 h2 h
       have h1 : ¬ IntKind.i64.wrap (N.getD 0 0 % 256 * 256) > IntKind.i64.wrap (IntKind.i64.wrap (Int.tdiv (M.length : Int) 256) * 256) := h1
       have h2 : N.getD 2 0 % 8 > 4 := h2
       rw [hq, w64 (by omega) (by omega)] at h1
       refine .mk [] [5] _ rfl rfl rfl rfl rfl (blk_eqs (l := dL N (N.getD 0 0 % 256) 0) (l' := dN N (qF M)) ?_) rfl
       rw [dN_if, if_neg (by omega), if_pos h2]; rfl)
    | (rename_i h1 h2 h
       have h1 : ¬ IntKind.i64.wrap (N.getD 0 0 % 256 * 256) > IntKind.i64.wrap (IntKind.i64.wrap (Int.tdiv (M.length : Int) 256) * 256) := h1
       have h2 : ¬ N.getD 2 0 % 8 > 4 := h2
       rw [hq, w64 (by omega) (by omega)] at h1
       refine .mk [] [5] _ rfl rfl rfl rfl rfl (blk_eqs (l := dL N (N.getD 0 0 % 256) (N.getD 2 0 % 8)) (l' := dN N (qF M)) ?_) rfl
       rw [dN_if, if_neg (by omega), if_neg h2]; rfl)

def dformed1S : PSpec := ⟨[gC, gD], fun (c, d, _) => (some (c.2.1 = 8 ∧ List.length d.2 ≤ 140737488355328 ∧ 0 < qF d.2), .agg [.own 0, .own 1], [.arr (.int .i64) (dN d.1 (qF d.2)), .arr (.int .u8) (dM d.2)])⟩
theorem dformed1_ok : Good Try.prog 15 dformed1S.spec := by
  have hT := tab_ok (fs := [(82, formS.spec)]) tree_ok
  have hP : SpecsOk Try.prog (tab tree [(82, formS.spec)]) := specs_cons form_ok specs_nil
  refine dformed1S.good (fn := Try.f15) hT hP Try.func15 (by kernel_rfl) rfl fun (c : Cv) (d : Dv) hp => ?_
  obtain ⟨cn, ck, cb, cs, cd⟩ := c
  obtain ⟨N, M⟩ := d
  obtain ⟨rfl, hl, h0⟩ : ck = 8 ∧ M.length ≤ 140737488355328 ∧ 0 < qF M := hp _ rfl
  have hq := qF_int M hl
  have hq2 := qF_le M
  have hm : over (List.replicate (IntKind.i64.wrap (IntKind.i64.wrap (Int.tdiv (M.length : Int) 256) * 256)).toNat 0) M 0 = dM M := by
    rw [hq]; exact over_take M hq2
  repeat' first
    | (refine Go.mk ?_; conv => whnf)
    | refine Need.go ?_ ?_
    | refine NilG.go (fun _ => ?_) (fun _ => ?_)
    | refine Br.dec (fun _ => ?_) (fun _ => ?_)
    | refine Br.go (fun _ => ?_) (fun _ => ?_)
    | refine draw_go hT hP mixed ?_
    | refine round_go hT hP ?_
  all_goals first
    | exact dmods_ok
    | exact of_decide_eq_true rfl
    | skip
  all_goals first
    | (exfalso; rename_i h; have h : ¬ IntKind.i64.wrap (IntKind.i64.wrap (Int.tdiv (M.length : Int) 256) * 256) > 0 := h; rw [hq] at h; omega)
    | (have e : ty5.bytes = 1 := rfl
       rw [e, show (List.length (N, M).2) = M.length from rfl, hq]; omega)
    | (rename_i h1 h2 h
       have h1 : IntKind.i64.wrap (N.getD 0 0 % 256 * 256) > IntKind.i64.wrap (IntKind.i64.wrap (Int.tdiv (M.length : Int) 256) * 256) := h1
       have h2 : N.getD 2 0 % 8 > 4 := h2
       rw [hq, w64 (by omega) (by omega)] at h1
       refine .mk [] [5, 6] _ rfl rfl rfl rfl rfl (blk2_eq (l := dL N 0 0) (l' := dN N (qF M)) ?_ hm) rfl
       rw [dN_if, if_pos (by omega), if_pos h2]; rfl)
    | (rename_i h1 h2 h
       have h1 : IntKind.i64.wrap (N.getD 0 0 % 256 * 256) > IntKind.i64.wrap (IntKind.i64.wrap (Int.tdiv (M.length : Int) 256) * 256) := h1
       have h2 : ¬ N.getD 2 0 % 8 > 4 := h2
       rw [hq, w64 (by omega) (by omega)] at h1
       refine .mk [] [5, 6] _ rfl rfl rfl rfl rfl (blk2_eq (l := dL N 0 (N.getD 2 0 % 8)) (l' := dN N (qF M)) ?_ hm) rfl
       rw [dN_if, if_pos (by omega), if_neg h2]; rfl)
    | (rename_i h1 h2 h
       have h1 : ¬ IntKind.i64.wrap (N.getD 0 0 % 256 * 256) > IntKind.i64.wrap (IntKind.i64.wrap (Int.tdiv (M.length : Int) 256) * 256) := h1
       have h2 : N.getD 2 0 % 8 > 4 := h2
       rw [hq, w64 (by omega) (by omega)] at h1
       refine .mk [] [5, 6] _ rfl rfl rfl rfl rfl (blk2_eq (l := dL N (N.getD 0 0 % 256) 0) (l' := dN N (qF M)) ?_ hm) rfl
       rw [dN_if, if_neg (by omega), if_pos h2]; rfl)
    | (rename_i h1 h2 h
       have h1 : ¬ IntKind.i64.wrap (N.getD 0 0 % 256 * 256) > IntKind.i64.wrap (IntKind.i64.wrap (Int.tdiv (M.length : Int) 256) * 256) := h1
       have h2 : ¬ N.getD 2 0 % 8 > 4 := h2
       rw [hq, w64 (by omega) (by omega)] at h1
       refine .mk [] [5, 6] _ rfl rfl rfl rfl rfl (blk2_eq (l := dL N (N.getD 0 0 % 256) (N.getD 2 0 % 8)) (l' := dN N (qF M)) ?_ hm) rfl
       rw [dN_if, if_neg (by omega), if_neg h2]; rfl)

end Go.Proofs.Ythpijepbbpcjeaa
