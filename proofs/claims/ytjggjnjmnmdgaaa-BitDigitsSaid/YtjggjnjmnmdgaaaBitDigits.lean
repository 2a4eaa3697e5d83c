/- bakelaw1.BitDigits answers true, whatever two numbers it is given. -/
import Derived.Test.YtjggjnjmnmdgaaaBitFields
namespace Go.Proofs.Ytjggjnjmnmdgaaa
open Go.Fw
set_option linter.unusedVariables false
set_option linter.unusedSimpArgs false
set_option maxRecDepth 100000

def mF (b : Int) : Nat := (limitF b 0 15).toNat
theorem mF_lim (b : Int) : limitF b 0 15 = (mF b : Int) ∧ mF b ≤ 15 := by
  unfold mF limitF
  constructor <;> (split <;> try split) <;> omega
theorem mF_min (b : Int) : imax 0 (imin b 15) = (mF b : Int) := by
  rw [imax_eq, imin_eq, ← (mF_lim b).1]
  unfold limitF
  (split <;> try split) <;> omega
theorem tup_ib {a c : Int} {b d : Bool} (h1 : a = c) (h2 : b = d) : AV.tup [I1 a, .c (bv b)] = AV.tup [I1 c, .c (bv d)] := by rw [h1, h2]

def decD (n : Nat) : Nat → Nat
  | 0 => 0
  | k + 1 => decD n k + (n / 10 ^ k % 10) * 2 ^ (4 * k)
theorem decD_lt (n : Nat) : ∀ k, decD n k < 2 ^ (4 * k)
  | 0 => by simp [decD]
  | k + 1 => by
    have ih := decD_lt n k
    have h : n / 10 ^ k % 10 < 10 := Nat.mod_lt _ (by omega)
    have e : 2 ^ (4 * (k + 1)) = 16 * 2 ^ (4 * k) := by rw [Nat.mul_add, Nat.pow_add]; omega
    have h2 : (n / 10 ^ k % 10) * 2 ^ (4 * k) ≤ 9 * 2 ^ (4 * k) := Nat.mul_le_mul_right _ (by omega)
    rw [decD, e]; omega
theorem decD_or (n k : Nat) : decD n k ||| (n / 10 ^ k % 10) * 2 ^ (4 * k) = decD n (k + 1) := by
  rw [Nat.or_comm, Nat.mul_comm, ← Nat.two_pow_add_eq_or_of_lt (decD_lt n k), decD, Nat.mul_comm, Nat.add_comm]
theorem div_step (n k : Nat) : n / 10 ^ k / 10 = n / 10 ^ (k + 1) := by rw [Nat.div_div_eq_div_mul, Nat.pow_succ]
theorem tmod10 (r : Nat) : Int.tmod (r : Int) 10 = ((r % 10 : Nat) : Int) := by rw [Int.tmod_eq_emod_of_nonneg (by omega)]; omega
theorem tdiv10 (r : Nat) (h : r ≤ 9223372036854775807) : IntKind.i64.wrap (Int.tdiv (r : Int) 10) = ((r / 10 : Nat) : Int) := by
  rw [Int.tdiv_eq_ediv_of_nonneg (by omega), w64 (by omega) (by omega)]; omega
def digF2 (n b : Int) : Int × Bool := if n < 0 then (0, false) else ((decD n.toNat (mF b) : Nat), decide (n.toNat / 10 ^ mF b = 0))
def digsS : PSpec := ⟨[gi, gi], fun (n, b, _) => (some (n ≤ 9223372036854775807), .tup [I1 (digF2 n b).1, .c (bv (digF2 n b).2)], [])⟩
theorem digs_ok : Good Try.prog 28 digsS.spec := by
  have hT := tab_ok (fs := []) tree_ok
  have hP : SpecsOk Try.prog (tab tree []) := specs_nil
  refine digsS.good (fn := Try.f28) hT hP Try.func28 (by kernel_rfl) rfl fun (n b : Int) hp => ?_
  have hp : n ≤ 9223372036854775807 := hp _ rfl
  obtain ⟨hm, hm15⟩ := mF_lim b
  have hb := mF_min b
  repeat' first
    | (refine Go.mk ?_; conv => whnf)
    | refine Need.go ?_ ?_
    | refine NilG.go (fun _ => ?_) (fun _ => ?_)
    | refine Br.dec (fun _ => ?_) (fun _ => ?_)
    | refine Br.go (fun _ => ?_) (fun _ => ?_)
    | refine draw_go hT hP mixed ?_
    | refine round_go hT hP ?_
  · rename_i h
    refine .mk [] [] _ rfl rfl rfl rfl rfl rfl ?_
    show AV.tup [I1 0, .c (bv false)] = AV.tup [I1 (digF2 n b).1, .c (bv (digF2 n b).2)]
    rw [digF2, if_pos h]
  rename_i hn
  obtain ⟨n, rfl⟩ := Int.eq_ofNat_of_zero_le (show 0 ≤ n by omega)
  refine loop_go hT hP (X := Int × Int × Int) (fun (i, o, r) => St.mk [I r, .dead, .dead, .dead, .dead, .dead, I o, .dead, .dead, .dead, .dead, .dead, .dead, I (imax 0 (imin b 15)), I i, .dead, .dead, .dead, .dead, .dead, .dead, .dead, .dead, .dead, .dead, .dead, .dead, .dead, .dead, .dead] [])
    (fun (i, o, r) => ∃ k : Nat, i = k ∧ k ≤ mF b ∧ o = ((decD n k : Nat) : Int) ∧ r = ((n / 10 ^ k : Nat) : Int)) (fun (i, _) => (mF b - i).toNat) (0, 0, n) (Le.mk [] [] rfl rfl ?_ ?_) ?_ fun (i, o, r) hi => ?_
  rotate_right
  repeat' first
    | (refine Go.mk ?_; conv => whnf)
    | refine Need.go ?_ ?_
    | refine NilG.go (fun _ => ?_) (fun _ => ?_)
    | refine Br.dec (fun _ => ?_) (fun _ => ?_)
    | refine Br.go (fun _ => ?_) (fun _ => ?_)
    | refine draw_go hT hP mixed ?_
    | refine round_go hT hP ?_
  rotate_right 3
  · exact rfl
  · repeat' first | exact trivial | exact ⟨rfl, rfl⟩ | refine And.intro ?_ ?_
  · exact ⟨0, rfl, by omega, rfl, by simp⟩
  · decide
  · obtain ⟨k, rfl, hk, rfl, rfl⟩ := hi
    rename_i hlt
    rw [hb] at hlt
    rw [w64 (by omega) (by omega)]; omega
  · decide
  · rename_i hlt
    obtain ⟨k, rfl, hk, rfl, rfl⟩ := hi
    rw [hb] at hlt
    have hk2 : k < mF b := by omega
    have e : IntKind.i64.wrap ((k : Int) + 1) = ((k + 1 : Nat) : Int) := by rw [w64 (by omega) (by omega)]; omega
    have h60 : 2 ^ (4 * (k + 1)) ≤ 2 ^ 60 := pow_le (by omega)
    have hd := decD_lt n (k + 1)
    have hd0 := decD_lt n k
    have h56 : 2 ^ (4 * k) ≤ 2 ^ (4 * (k + 1)) := pow_le (by omega)
    have hmod : n / 10 ^ k % 10 * 2 ^ (4 * k) ≤ decD n (k + 1) := by rw [decD]; omega
    apply Exists.intro (_, _, _)
    refine And.intro ?_ (And.intro ?_ (Le.mk [] [] rfl rfl ?hh ?ht))
    case hh => exact rfl
    case ht => repeat' first | exact trivial | exact ⟨rfl, rfl⟩ | refine And.intro ?_ ?_
    · refine ⟨k + 1, e, by omega, ?_, ?_⟩
      · show lor .i64 ((decD n k : Nat) : Int) (shl .i64 (Int.tmod ((n / 10 ^ k : Nat) : Int) 10) (IntKind.i64.wrap (4 * (k : Int)))) = _
        have e1 := tmod10 (n / 10 ^ k)
        have e2 : IntKind.i64.wrap (4 * (k : Int)) = ((4 * k : Nat) : Int) := by rw [w64 (by omega) (by omega)]; omega
        rw [e1, e2, shl_eq (by omega) (by omega), lor_nat _ _ (by rw [u64_nat (by omega), u64_nat (by omega), decD_or]; omega), u64_nat (by omega), u64_nat (by omega), decD_or]
      · show IntKind.i64.wrap (Int.tdiv ((n / 10 ^ k : Nat) : Int) 10) = _
        rw [tdiv10 _ (Nat.le_trans (Nat.div_le_self _ _) (by omega)), div_step n k]
    · show (mF b - IntKind.i64.wrap ((k : Int) + 1)).toNat < (mF b - (k : Int)).toNat
      rw [e]; omega
  · rename_i hlt
    obtain ⟨k, rfl, hk, rfl, rfl⟩ := hi
    rw [hb] at hlt
    obtain rfl : k = mF b := by omega
    refine .mk [] [] _ rfl rfl rfl rfl rfl rfl ?_
    show AV.tup [I1 ((decD n (mF b) : Nat) : Int), .c (bv (((n / 10 ^ mF b : Nat) : Int) == 0))] = AV.tup [I1 (digF2 (n : Int) b).1, .c (bv (digF2 (n : Int) b).2)]
    rw [digF2, if_neg hn]
    refine tup_ib rfl ?_
    show decide (((n / 10 ^ mF b : Nat) : Int) = 0) = decide (n / 10 ^ mF b = 0)
    congr 1
    apply propext
    omega

theorem decm_ok : Good Try.prog 29 digsS.spec := by
  have hT := tab_ok (fs := [(83, limitS.spec)]) tree_ok
  have hP : SpecsOk Try.prog (tab tree [(83, limitS.spec)]) := specs_cons limit_ok specs_nil
  refine digsS.good (fn := Try.f29) hT hP Try.func29 (by kernel_rfl) rfl fun (n b : Int) hp => ?_
  have hp : n ≤ 9223372036854775807 := hp _ rfl
  obtain ⟨hm, hm15⟩ := mF_lim b
  repeat' first
    | (refine Go.mk ?_; conv => whnf)
    | refine Need.go ?_ ?_
    | refine NilG.go (fun _ => ?_) (fun _ => ?_)
    | refine Br.dec (fun _ => ?_) (fun _ => ?_)
    | refine Br.go (fun _ => ?_) (fun _ => ?_)
    | refine draw_go hT hP mixed ?_
    | refine round_go hT hP ?_
  · rename_i h
    refine .mk [] [] _ rfl rfl rfl rfl rfl rfl ?_
    show AV.tup [I1 0, .c (bv false)] = AV.tup [I1 (digF2 n b).1, .c (bv (digF2 n b).2)]
    rw [digF2, if_pos h]
  rename_i hn
  obtain ⟨n, rfl⟩ := Int.eq_ofNat_of_zero_le (show 0 ≤ n by omega)
  refine loop_go hT hP (X := Int × Int × Int × Int) (fun (i, o, r, p) => St.mk [I r, .dead, .dead, .dead, .dead, .dead, I o, I p, .dead, .dead, .dead, .dead, I (limitF b 0 15), I i, .dead, .dead, .dead, .dead, .dead, .dead, .dead, .dead, .dead, .dead, .dead, .dead, .dead, .dead, .dead] [])
    (fun (i, o, r, p) => ∃ k : Nat, i = k ∧ k ≤ mF b ∧ o = ((decD n k : Nat) : Int) ∧ r = ((n / 10 ^ k : Nat) : Int) ∧ p = ((2 ^ (4 * k) : Nat) : Int)) (fun (i, _) => (mF b - i).toNat) (0, 0, n, 1) (Le.mk [] [] rfl rfl ?_ ?_) ?_ fun (i, o, r, p) hi => ?_
  rotate_right
  repeat' first
    | (refine Go.mk ?_; conv => whnf)
    | refine Need.go ?_ ?_
    | refine NilG.go (fun _ => ?_) (fun _ => ?_)
    | refine Br.dec (fun _ => ?_) (fun _ => ?_)
    | refine Br.go (fun _ => ?_) (fun _ => ?_)
    | refine draw_go hT hP mixed ?_
    | refine round_go hT hP ?_
  rotate_right 3
  · exact rfl
  · repeat' first | exact trivial | exact ⟨rfl, rfl⟩ | refine And.intro ?_ ?_
  · exact ⟨0, rfl, by omega, rfl, by simp, rfl⟩
  · decide
  · decide
  · rename_i hlt
    obtain ⟨k, rfl, hk, rfl, rfl, rfl⟩ := hi
    rw [hm] at hlt
    have hk2 : k < mF b := by omega
    have e : IntKind.i64.wrap ((k : Int) + 1) = ((k + 1 : Nat) : Int) := by rw [w64 (by omega) (by omega)]; omega
    have h60 : 2 ^ (4 * (k + 1)) ≤ 2 ^ 60 := pow_le (by omega)
    have hd := decD_lt n (k + 1)
    have hd0 := decD_lt n k
    have h16 : 2 ^ (4 * (k + 1)) = 2 ^ (4 * k) * 16 := by rw [Nat.mul_add, Nat.pow_add]
    have hmod : n / 10 ^ k % 10 * 2 ^ (4 * k) ≤ decD n (k + 1) := by rw [decD]; omega
    apply Exists.intro (_, _, _, _)
    refine And.intro ?_ (And.intro ?_ (Le.mk [] [] rfl rfl ?hh ?ht))
    case hh => exact rfl
    case ht => repeat' first | exact trivial | exact ⟨rfl, rfl⟩ | refine And.intro ?_ ?_
    · refine ⟨k + 1, e, by omega, ?_, ?_, ?_⟩
      · show IntKind.i64.wrap (((decD n k : Nat) : Int) + IntKind.i64.wrap (Int.tmod ((n / 10 ^ k : Nat) : Int) 10 * ((2 ^ (4 * k) : Nat) : Int))) = _
        have e1 := tmod10 (n / 10 ^ k)
        rw [e1, ← Int.natCast_mul, w64 (x := ((n / 10 ^ k % 10 * 2 ^ (4 * k) : Nat) : Int)) (by omega) (by omega), ← Int.natCast_add]
        have e2 : decD n k + n / 10 ^ k % 10 * 2 ^ (4 * k) = decD n (k + 1) := rfl
        rw [e2, w64 (by omega) (by omega)]
      · show IntKind.i64.wrap (Int.tdiv ((n / 10 ^ k : Nat) : Int) 10) = _
        rw [tdiv10 _ (Nat.le_trans (Nat.div_le_self _ _) (by omega)), div_step n k]
      · show IntKind.i64.wrap (((2 ^ (4 * k) : Nat) : Int) * 16) = _
        rw [h16, w64 (by omega) (by omega)]
        omega
    · show (mF b - IntKind.i64.wrap ((k : Int) + 1)).toNat < (mF b - (k : Int)).toNat
      rw [e]; omega
  · rename_i hlt
    obtain ⟨k, rfl, hk, rfl, rfl, rfl⟩ := hi
    rw [hm] at hlt
    obtain rfl : k = mF b := by omega
    refine .mk [] [] _ rfl rfl rfl rfl rfl rfl ?_
    show AV.tup [I1 ((decD n (mF b) : Nat) : Int), .c (bv (((n / 10 ^ mF b : Nat) : Int) == 0))] = AV.tup [I1 (digF2 (n : Int) b).1, .c (bv (digF2 (n : Int) b).2)]
    rw [digF2, if_neg hn]
    refine tup_ib rfl ?_
    show decide (((n / 10 ^ mF b : Nat) : Int) = 0) = decide (n / 10 ^ mF b = 0)
    congr 1
    apply propext
    omega

-- the other way

/-- digit j -/
def gD4 (n : Int) (j : Nat) : Nat := u64 n % 2 ^ 62 / 2 ^ (4 * j) % 16
def okD (n : Int) (m : Nat) : Bool := (List.range m).all fun j => decide (gD4 n j ≤ 9)
def valD (n : Int) : Nat → Nat
  | 0 => 0
  | k + 1 => valD n k + gD4 n k * 10 ^ k
/-- the k digits below digit m -/
def topD (n : Int) (m : Nat) : Nat → Nat
  | 0 => 0
  | k + 1 => topD n m k * 10 + gD4 n (m - 1 - k)
theorem top_val (n : Int) (m : Nat) : ∀ k, k ≤ m → valD n m = valD n (m - k) + 10 ^ (m - k) * topD n m k
  | 0, _ => by simp [topD]
  | k + 1, h => by
    have ih := top_val n m k (by omega)
    have e : m - k = (m - (k + 1)) + 1 := by omega
    have e2 : m - 1 - k = m - (k + 1) := by omega
    rw [ih, topD, e2, e, valD, Nat.pow_succ, Nat.mul_add]
    have h1 : 10 ^ (m - (k + 1)) * 10 * topD n m k = 10 ^ (m - (k + 1)) * (topD n m k * 10) := by rw [Nat.mul_assoc, Nat.mul_comm 10]
    have h2 : gD4 n (m - (k + 1)) * 10 ^ (m - (k + 1)) = 10 ^ (m - (k + 1)) * gD4 n (m - (k + 1)) := Nat.mul_comm _ _
    rw [h1, h2]; omega
theorem okD_succ (n : Int) (k : Nat) : okD n (k + 1) = (okD n k && decide (gD4 n k ≤ 9)) := by
  unfold okD
  rw [List.range_succ, List.all_append]; simp
theorem okD_no {n : Int} {m j : Nat} (hj : j < m) (h : ¬ gD4 n j ≤ 9) : okD n m = false := by
  unfold okD
  rw [List.all_eq_false]
  exact ⟨j, List.mem_range.2 hj, by simpa using h⟩
theorem okD_yes {n : Int} {m : Nat} (h : ∀ j, j < m → gD4 n j ≤ 9) : okD n m = true := by
  unfold okD
  rw [List.all_eq_true]
  exact fun j hj => decide_eq_true (h j (List.mem_range.1 hj))
theorem valD_lt {n : Int} : ∀ {m : Nat}, (∀ j, j < m → gD4 n j ≤ 9) → valD n m < 10 ^ m
  | 0, _ => by simp [valD]
  | m + 1, h => by
    have ih := valD_lt (n := n) (m := m) fun j hj => h j (by omega)
    have := Nat.mul_le_mul_right (10 ^ m) (h m (by omega))
    rw [valD, Nat.pow_succ]; omega
theorem pow10 {k : Nat} (h : k ≤ 15) : 10 ^ k ≤ 1000000000000000 := by
  have := Nat.pow_le_pow_right (n := 10) (by omega) h
  exact this
def numF (n b : Int) : Int × Bool := if okD n (mF b) = true then ((valD n (mF b) : Nat), true) else (0, false)
def numS : PSpec := ⟨[gi, gi], fun (n, b, _) => (none, .tup [I1 (numF n b).1, .c (bv (numF n b).2)], [])⟩
theorem get4 (n : Int) {j : Nat} (hj : j ≤ 14) : getF n ((4 * j : Nat) : Int) 4 = ((gD4 n j : Nat) : Int) := by
  obtain ⟨f, z, h, h1, h2, h3⟩ := place_eq ((4 * j : Nat) : Int) 4
  have hf : fromF ((4 * j : Nat) : Int) = ((4 * j : Nat) : Int) := by unfold fromF; rw [imax_eq, imin_eq]; omega
  have e1 : f = 4 * j := by rw [hf] at h1; omega
  have e2 : z = 4 := by
    have := h2
    unfold toF at this
    rw [hf, imax_eq, imin_eq, w64 (x := 62 - ((4 * j : Nat) : Int)) (by omega) (by omega), w64 (by omega) (by omega)] at this
    omega
  subst e1; subst e2
  rw [getF_eq h3 h]; rfl

theorem topD_lt {n : Int} {m : Nat} : ∀ {k : Nat}, k ≤ m → (∀ j, m - k ≤ j → j < m → gD4 n j ≤ 9) → topD n m k < 10 ^ k
  | 0, _, _ => by simp [topD]
  | k + 1, h, hg => by
    have ih := topD_lt (n := n) (m := m) (k := k) (by omega) fun j h1 h2 => hg j (by omega) h2
    have := hg (m - 1 - k) (by omega) (by omega)
    rw [topD, Nat.pow_succ]; omega
theorem num_ok : Good Try.prog 30 numS.spec := by
  have hT := tab_ok (fs := [(19, getS.spec)]) tree_ok
  have hP : SpecsOk Try.prog (tab tree [(19, getS.spec)]) := specs_cons get_ok specs_nil
  refine numS.good (fn := Try.f30) hT hP Try.func30 (by kernel_rfl) rfl fun (n b : Int) _ => ?_
  obtain ⟨hm, hm15⟩ := mF_lim b
  have hb := mF_min b
  repeat' first
    | (refine Go.mk ?_; conv => whnf)
    | refine Need.go ?_ ?_
    | refine NilG.go (fun _ => ?_) (fun _ => ?_)
    | refine Br.dec (fun _ => ?_) (fun _ => ?_)
    | refine Br.go (fun _ => ?_) (fun _ => ?_)
    | refine draw_go hT hP mixed ?_
    | refine round_go hT hP ?_
  refine loop_go hT hP (X := Int × Int) (fun (i, o) => St.mk [I n, .dead, .dead, .dead, .dead, .dead, I o, I i, .dead, .dead, .dead, .dead, .dead, .dead, .dead, .dead, .dead, .dead, .dead, .dead, .dead, .dead, .dead, .dead, .dead, .dead, .dead, .dead, .dead] [])
    (fun (i, o) => ∃ k : Nat, i = (mF b : Int) - 1 - k ∧ k ≤ mF b ∧ o = ((topD n (mF b) k : Nat) : Int) ∧ ∀ j, mF b - k ≤ j → j < mF b → gD4 n j ≤ 9) (fun (i, _) => (i + 1).toNat) (IntKind.i64.wrap (imax 0 (imin b 15) - 1), 0) (Le.mk [] [] rfl rfl ?_ ?_) ?_ fun (i, o) hi => ?_
  rotate_right
  repeat' first
    | (refine Go.mk ?_; conv => whnf)
    | refine Need.go ?_ ?_
    | refine NilG.go (fun _ => ?_) (fun _ => ?_)
    | refine Br.dec (fun _ => ?_) (fun _ => ?_)
    | refine Br.go (fun _ => ?_) (fun _ => ?_)
    | refine draw_go hT hP mixed ?_
    | refine round_go hT hP ?_
  rotate_right 3
  · exact rfl
  · repeat' first | exact trivial | exact ⟨rfl, rfl⟩ | refine And.intro ?_ ?_
  · refine ⟨0, ?_, by omega, rfl, fun j h1 h2 => by omega⟩
    rw [hb, w64 (by omega) (by omega)]; omega
  · rename_i hge h9
    obtain ⟨k, rfl, hk, rfl, hg⟩ := hi
    have hk2 : k < mF b := by omega
    have e1 : IntKind.i64.wrap (4 * ((mF b : Int) - 1 - k)) = ((4 * (mF b - 1 - k) : Nat) : Int) := by rw [w64 (by omega) (by omega)]; omega
    have h9 : getF n (IntKind.i64.wrap (4 * ((mF b : Int) - 1 - k))) 4 > 9 := h9
    rw [e1, get4 n (by omega)] at h9
    refine .mk [] [] _ rfl rfl rfl rfl rfl rfl ?_
    show AV.tup [I1 0, .c (bv false)] = AV.tup [I1 (numF n b).1, .c (bv (numF n b).2)]
    rw [numF, okD_no (j := mF b - 1 - k) (by omega) (by omega)]; rfl
  · rename_i hge h9
    obtain ⟨k, rfl, hk, rfl, hg⟩ := hi
    have hk2 : k < mF b := by omega
    have e1 : IntKind.i64.wrap (4 * ((mF b : Int) - 1 - k)) = ((4 * (mF b - 1 - k) : Nat) : Int) := by rw [w64 (by omega) (by omega)]; omega
    have h9 : ¬ getF n (IntKind.i64.wrap (4 * ((mF b : Int) - 1 - k))) 4 > 9 := h9
    rw [e1, get4 n (by omega)] at h9
    have hg2 : ∀ j, mF b - (k + 1) ≤ j → j < mF b → gD4 n j ≤ 9 := fun j h1 h2 => by
      by_cases e : j = mF b - 1 - k
      · subst e; omega
      · exact hg j (by omega) h2
    have ht := topD_lt (k := k) hk hg
    have ht2 := topD_lt (k := k + 1) (by omega) hg2
    have hp := pow10 (k := k) (by omega)
    have hp2 := pow10 (k := k + 1) (by omega)
    have e : IntKind.i64.wrap ((mF b : Int) - 1 - k - 1) = (mF b : Int) - 1 - ((k + 1 : Nat) : Int) := by rw [w64 (by omega) (by omega)]; omega
    apply Exists.intro (_, _)
    refine And.intro ?_ (And.intro ?_ (Le.mk [] [] rfl rfl ?hh ?ht))
    case hh => exact rfl
    case ht => repeat' first | exact trivial | exact ⟨rfl, rfl⟩ | refine And.intro ?_ ?_
    · refine ⟨k + 1, e, by omega, ?_, hg2⟩
      show IntKind.i64.wrap (IntKind.i64.wrap (((topD n (mF b) k : Nat) : Int) * 10) + getF n (IntKind.i64.wrap (4 * ((mF b : Int) - 1 - k))) 4) = _
      rw [e1, get4 n (by omega), w64 (x := ((topD n (mF b) k : Nat) : Int) * 10) (by omega) (by omega)]
      have e3 : ((topD n (mF b) (k + 1) : Nat) : Int) = ((topD n (mF b) k : Nat) : Int) * 10 + ((gD4 n (mF b - 1 - k) : Nat) : Int) := by rw [topD]; omega
      rw [← e3, w64 (by omega) (by omega)]
    · show (IntKind.i64.wrap ((mF b : Int) - 1 - k - 1) + 1).toNat < ((mF b : Int) - 1 - k + 1).toNat
      rw [e]; omega
  · obtain ⟨k, rfl, hk, rfl, hg⟩ := hi
    have e : k = mF b := by omega
    subst e
    refine .mk [] [] _ rfl rfl rfl rfl rfl rfl ?_
    show AV.tup [I1 ((topD n (mF b) (mF b) : Nat) : Int), .c (bv true)] = AV.tup [I1 (numF n b).1, .c (bv (numF n b).2)]
    have h1 := top_val n (mF b) (mF b) (Nat.le_refl _)
    rw [Nat.sub_self] at h1
    rw [numF, if_pos (okD_yes fun j hj => hg j (by omega) hj), h1]
    simp [valD]

theorem dig4 (n : Int) {k : Nat} (hk : k ≤ 14) : of2F (((dig2F n 62).drop (4 * k)).take 4) = ((gD4 n k : Nat) : Int) := by
  have hf : fromF ((4 * k : Nat) : Int) = ((4 * k : Nat) : Int) := by unfold fromF; rw [imax_eq, imin_eq]; omega
  have ht : toF ((4 * k : Nat) : Int) 4 = ((4 * k + 4 : Nat) : Int) := by
    unfold toF
    rw [hf, imax_eq, imin_eq, w64 (x := 62 - ((4 * k : Nat) : Int)) (by omega) (by omega), w64 (by omega) (by omega)]
    omega
  rw [← get4 n hk, field_get, hf, ht]
  have e1 : (((4 * k : Nat) : Int)).toNat = 4 * k := by omega
  have e2 : (((4 * k + 4 : Nat) : Int)).toNat - (((4 * k : Nat) : Int)).toNat = 4 := by omega
  rw [e2, e1]
theorem undec_ok : Good Try.prog 31 numS.spec := by
  have hT := tab_ok (fs := [(83, limitS.spec), (17, digS.spec), (18, of2S.spec)]) tree_ok
  have hP : SpecsOk Try.prog (tab tree [(83, limitS.spec), (17, digS.spec), (18, of2S.spec)]) := specs_cons limit_ok (specs_cons dig_ok (specs_cons of2_ok specs_nil))
  refine numS.good (fn := Try.f31) hT hP Try.func31 (by kernel_rfl) rfl fun (n b : Int) _ => ?_
  obtain ⟨hm, hm15⟩ := mF_lim b
  have hl : (dig2F n 62).length = 62 := by rw [dig2_62, bitsN_len]
  repeat' first
    | (refine Go.mk ?_; conv => whnf)
    | refine Need.go ?_ ?_
    | refine NilG.go (fun _ => ?_) (fun _ => ?_)
    | refine Br.dec (fun _ => ?_) (fun _ => ?_)
    | refine Br.go (fun _ => ?_) (fun _ => ?_)
    | refine draw_go hT hP mixed ?_
    | refine round_go hT hP ?_
  refine loop_go hT hP (X := Int × Int × Int) (fun (i, o, p) => St.mk [.dead, .dead, .dead, .dead, .dead, .dead, .cell (.own 0), I o, I p, .dead, .dead, .dead, .dead, .dead, .dead, I (limitF b 0 15), I i, .dead, .dead, .dead, .dead, .dead, .dead, .dead, .dead, .dead, .dead, .dead, .dead, .dead, .dead, .dead, .dead, .dead, .dead, .dead, .dead, .dead, .dead] [some (.arr (.int .i64) (dig2F n 62))])
    (fun (i, o, p) => ∃ k : Nat, i = k ∧ k ≤ mF b ∧ o = ((valD n k : Nat) : Int) ∧ p = ((10 ^ k : Nat) : Int) ∧ ∀ j, j < k → gD4 n j ≤ 9) (fun (i, _) => (mF b - i).toNat) (0, 0, 1) (Le.mk [] [0] rfl rfl ?_ ?_) ?_ fun (i, o, p) hi => ?_
  rotate_right
  have cut : ∀ k : Nat, k ≤ 14 → IntKind.i64.wrap (4 * (k : Int)) = ((4 * k : Nat) : Int) ∧ imin (IntKind.i64.wrap (IntKind.i64.wrap (4 * (k : Int)) + 4)) 62 = ((4 * k + 4 : Nat) : Int) := by
    intro k hk
    have e1 : IntKind.i64.wrap (4 * (k : Int)) = ((4 * k : Nat) : Int) := by rw [w64 (by omega) (by omega)]; omega
    rw [e1, imin_eq, w64 (by omega) (by omega)]
    refine ⟨rfl, ?_⟩
    omega
  have dig : ∀ k : Nat, k ≤ 14 → of2F (((dig2F n 62).drop (IntKind.i64.wrap (4 * (k : Int))).toNat).take ((imin (IntKind.i64.wrap (IntKind.i64.wrap (4 * (k : Int)) + 4)) 62).toNat - (IntKind.i64.wrap (4 * (k : Int))).toNat)) = ((gD4 n k : Nat) : Int) := by
    intro k hk
    rw [(cut k hk).1, ← dig4 n hk]
    have h2 := (cut k hk).2
    rw [(cut k hk).1] at h2
    rw [h2]
    have e1 : (((4 * k : Nat) : Int)).toNat = 4 * k := by omega
    have e2 : (((4 * k + 4 : Nat) : Int)).toNat - (((4 * k : Nat) : Int)).toNat = 4 := by omega
    rw [e2, e1]
  repeat' first
    | (refine Go.mk ?_; conv => whnf)
    | refine Need.go ?_ ?_
    | refine NilG.go (fun _ => ?_) (fun _ => ?_)
    | refine Br.dec (fun _ => ?_) (fun _ => ?_)
    | refine Br.go (fun _ => ?_) (fun _ => ?_)
    | refine draw_go hT hP mixed ?_
    | refine round_go hT hP ?_
  rotate_right 3
  · exact rfl
  · repeat' first | exact trivial | exact ⟨rfl, rfl⟩ | refine And.intro ?_ ?_
  · exact ⟨0, rfl, by omega, rfl, rfl, fun j h => by omega⟩
  · rename_i hlt
    obtain ⟨k, rfl, hk, rfl, rfl, hg⟩ := hi
    rw [(cut k (by omega)).2, (cut k (by omega)).1, hl]
    omega
  · show (List.take _ (List.drop _ (dig2F n 62))).length ≤ 1000000000000
    rw [List.length_take, List.length_drop, hl]
    omega
  · rename_i hlt h9
    obtain ⟨k, rfl, hk, rfl, rfl, hg⟩ := hi
    have h9 : of2F (((dig2F n 62).drop (IntKind.i64.wrap (4 * (k : Int))).toNat).take ((imin (IntKind.i64.wrap (IntKind.i64.wrap (4 * (k : Int)) + 4)) 62).toNat - (IntKind.i64.wrap (4 * (k : Int))).toNat)) ≥ 10 := h9
    rw [dig k (by omega)] at h9
    refine .mk [] [] _ rfl rfl rfl rfl rfl rfl ?_
    show AV.tup [I1 0, .c (bv false)] = AV.tup [I1 (numF n b).1, .c (bv (numF n b).2)]
    rw [numF, okD_no (j := k) (by omega) (by omega)]; rfl
  · rename_i hlt h9
    obtain ⟨k, rfl, hk, rfl, rfl, hg⟩ := hi
    have hk2 : k < mF b := by omega
    have h9 : ¬ of2F (((dig2F n 62).drop (IntKind.i64.wrap (4 * (k : Int))).toNat).take ((imin (IntKind.i64.wrap (IntKind.i64.wrap (4 * (k : Int)) + 4)) 62).toNat - (IntKind.i64.wrap (4 * (k : Int))).toNat)) ≥ 10 := h9
    have hd := dig k (by omega)
    rw [hd] at h9
    have hg2 : ∀ j, j < k + 1 → gD4 n j ≤ 9 := fun j h1 => by
      by_cases e : j = k
      · subst e; omega
      · exact hg j (by omega)
    have hv := valD_lt hg
    have hv2 := valD_lt hg2
    have hp := pow10 (k := k) (by omega)
    have hp2 := pow10 (k := k + 1) (by omega)
    have hgk : gD4 n k * 10 ^ k ≤ valD n (k + 1) := by rw [valD]; omega
    have e : IntKind.i64.wrap ((k : Int) + 1) = ((k + 1 : Nat) : Int) := by rw [w64 (by omega) (by omega)]; omega
    apply Exists.intro (_, _, _)
    refine And.intro ?_ (And.intro ?_ (Le.mk [] [0] rfl rfl ?hh ?ht))
    case hh => exact rfl
    case ht => repeat' first | exact trivial | exact ⟨rfl, rfl⟩ | refine And.intro ?_ ?_
    · refine ⟨k + 1, e, by omega, ?_, ?_, hg2⟩
      · show IntKind.i64.wrap (((valD n k : Nat) : Int) + IntKind.i64.wrap (of2F (((dig2F n 62).drop (IntKind.i64.wrap (4 * (k : Int))).toNat).take ((imin (IntKind.i64.wrap (IntKind.i64.wrap (4 * (k : Int)) + 4)) 62).toNat - (IntKind.i64.wrap (4 * (k : Int))).toNat)) * ((10 ^ k : Nat) : Int))) = _
        rw [hd, ← Int.natCast_mul, w64 (x := ((gD4 n k * 10 ^ k : Nat) : Int)) (by omega) (by omega), ← Int.natCast_add]
        have e2 : valD n k + gD4 n k * 10 ^ k = valD n (k + 1) := rfl
        rw [e2, w64 (by omega) (by omega)]
      · show IntKind.i64.wrap (((10 ^ k : Nat) : Int) * 10) = _
        have e2 : ((10 ^ k : Nat) : Int) * 10 = ((10 ^ (k + 1) : Nat) : Int) := by rw [Nat.pow_succ, Int.natCast_mul]; rfl
        rw [e2, w64 (by omega) (by omega)]
    · show (mF b - IntKind.i64.wrap ((k : Int) + 1)).toNat < (mF b - (k : Int)).toNat
      rw [e]; omega
  · rename_i hlt
    obtain ⟨k, rfl, hk, rfl, rfl, hg⟩ := hi
    rw [hm] at hlt
    obtain rfl : k = mF b := by omega
    refine .mk [] [] _ rfl rfl rfl rfl rfl rfl ?_
    show AV.tup [I1 ((valD n (mF b) : Nat) : Int), .c (bv true)] = AV.tup [I1 (numF n b).1, .c (bv (numF n b).2)]
    rw [numF, if_pos (okD_yes hg)]

def bdS : PSpec := ⟨[gi, gi], fun (n, b, _) => (some (n ≤ 9223372036854775807), .cell (bv true), [])⟩
theorem bd_ok : Good Try.prog 6 bdS.spec := by
  have hT := tab_ok (fs := [(16, bitsS.spec), (28, digsS.spec), (29, digsS.spec), (30, numS.spec), (31, numS.spec)]) tree_ok
  have hP : SpecsOk Try.prog (tab tree [(16, bitsS.spec), (28, digsS.spec), (29, digsS.spec), (30, numS.spec), (31, numS.spec)]) := specs_cons bits_ok (specs_cons digs_ok (specs_cons decm_ok (specs_cons num_ok (specs_cons undec_ok specs_nil))))
  refine bdS.good (fn := Try.f6) hT hP Try.func6 (by kernel_rfl) rfl fun (n b : Int) hp => ?_
  have hp : n ≤ 9223372036854775807 := hp _ rfl
  repeat' first
    | (refine Go.mk ?_; conv => whnf)
    | refine Need.go ?_ ?_
    | refine NilG.go (fun _ => ?_) (fun _ => ?_)
    | refine Br.dec (fun _ => ?_) (fun _ => ?_)
    | refine Br.go (fun _ => ?_) (fun _ => ?_)
    | refine draw_go hT hP mixed ?_
    | refine round_go hT hP ?_
  all_goals first
    | exact hp
    | (refine .mk [] [] _ rfl rfl rfl rfl rfl rfl (imm_bool ?_)
       simp; done)
    | (exfalso; rename_i h; simp at h; done)

end Go.Proofs.Ytjggjnjmnmdgaaa
