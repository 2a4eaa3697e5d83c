/- What the functions of package bit and the digits of bakeref1 are as arithmetic. -/
import Derived.Test.YtjggjnjmnmdgaaaRef
import Derived.Laws.Bits64
namespace Go.Proofs.Ytjggjnjmnmdgaaa
open Go.Fw
set_option linter.unusedVariables false
set_option linter.unusedSimpArgs false

theorem widthF_in (b : Int) : 0 ≤ widthF b ∧ widthF b ≤ 62 := by
  simp only [widthF, imax_eq, imin_eq]; omega
theorem widthF_id {b : Int} (h1 : 0 ≤ b) (h2 : b ≤ 62) : widthF b = b := by
  simp only [widthF, imax_eq, imin_eq]; omega
theorem lowF_eq (x b : Int) : lowF x b = ((u64 x % 2 ^ (widthF b).toNat : Nat) : Int) := by
  obtain ⟨h1, h2⟩ := widthF_in b
  unfold lowF
  generalize widthF b = w at h1 h2
  obtain ⟨k, rfl⟩ := Int.eq_ofNat_of_zero_le h1
  have hk : k ≤ 62 := by omega
  have h3 : 2 ^ k ≤ 2 ^ 62 := pow_le hk
  have h4 : 0 < 2 ^ k := Nat.pow_pos (by omega)
  rw [mask_eq hk]
  have e : u64 ((2 ^ k - 1 : Nat) : Int) = 2 ^ k - 1 := u64_nat (by omega)
  have e2 : u64 x &&& (2 ^ k - 1) = u64 x % 2 ^ k := Nat.and_two_pow_sub_one_eq_mod _ _
  have h5 : u64 x % 2 ^ k < 2 ^ k := Nat.mod_lt _ h4
  rw [land_nat _ _ (by rw [e, e2]; omega), e, e2]
  simp
theorem digitF_eq (n : Int) (i : Nat) (h : i ≤ 62) : digitF n i = ((u64 n / 2 ^ i % 2 : Nat) : Int) := by
  unfold digitF
  have e1 : IntKind.u64.wrap n = (u64 n : Int) := by rw [IntKind.wrap_u64]; unfold u64; omega
  have e2 : shr .u64 (IntKind.u64.wrap n) i = ((u64 n / 2 ^ i : Nat) : Int) := by
    rw [e1]
    show ((u64 n : Nat) : Int).fdiv (2 ^ (min ((i : Int).toNat) 64)) = _
    have : min ((i : Int).toNat) 64 = i := by omega
    rw [this]
    have e2 : (2 : Int) ^ i = ((2 ^ i : Nat) : Int) := by simp
    rw [e2, Int.fdiv_eq_ediv_of_nonneg _ (Int.natCast_nonneg _)]
    simp
  rw [e2]
  have hlt : u64 n / 2 ^ i < 2 ^ 64 := Nat.lt_of_le_of_lt (Nat.div_le_self _ _) (u64_lt n)
  have e3 : land .u64 ((u64 n / 2 ^ i : Nat) : Int) 1 = ((u64 n / 2 ^ i % 2 : Nat) : Int) := by
    show IntKind.u64.wrap (((BitVec.ofInt 64 ((u64 n / 2 ^ i : Nat) : Int) &&& BitVec.ofInt 64 1).toNat : Nat) : Int) = _
    rw [BitVec.toNat_and, ofInt_toNat, ofInt_toNat, u64_nat hlt]
    have : u64 1 = 2 ^ 1 - 1 := by decide
    rw [this, Nat.and_two_pow_sub_one_eq_mod, IntKind.wrap_u64]
    omega
  rw [e3]
  exact w64 (by omega) (by omega)
theorem digF_eq (n : Int) (k : Nat) (h : k ≤ 62) : digF n k = bitsN (u64 n) k := by
  unfold digF bitsN
  apply List.map_congr_left
  intro i hi
  exact digitF_eq n i (by have := List.mem_range.1 hi; omega)
theorem of2F_bits : ∀ (k m : Nat), k ≤ 62 → of2F (bitsN m k) = ((m % 2 ^ k : Nat) : Int)
  | 0, m, _ => by simp [bitsN, of2F, Nat.mod_one]
  | k + 1, m, h => by
    have ih := of2F_bits k (m / 2) (by omega)
    rw [bitsN_succ]
    show IntKind.i64.wrap (IntKind.i64.wrap (2 * of2F (bitsN (m / 2) k)) + ((m % 2 : Nat) : Int)) = _
    rw [ih]
    have h3 : 2 ^ k ≤ 2 ^ 61 := pow_le (by omega)
    have h4 : m / 2 % 2 ^ k < 2 ^ k := Nat.mod_lt _ (Nat.pow_pos (by omega))
    rw [w64 (x := 2 * ((m / 2 % 2 ^ k : Nat) : Int)) (by omega) (by omega), w64 (by omega) (by omega)]
    have e : m % 2 ^ (k + 1) = m % 2 + 2 * (m / 2 % 2 ^ k) := by
      rw [Nat.pow_succ, Nat.mul_comm, Nat.mod_mul]
    rw [e]
    omega
theorem dig2_62 (n : Int) : dig2F n 62 = bitsN (u64 n) 62 := digF_eq n 62 (by omega)

end Go.Proofs.Ytjggjnjmnmdgaaa
