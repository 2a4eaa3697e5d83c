/- Fields of numbers, by division: plain arithmetic. -/
import Derived.Test.YtblnigjmcjpopaaBaseLaw
import Derived.Test.YtblnigjmcjpopaaChip
namespace Go.Proofs.Ytblnigjmcjpopaa
open Go.Fw
set_option linter.unusedVariables false
set_option linter.unusedSimpArgs false

theorem placeF_id {f z : Nat} (h : f + z ≤ 62) : placeF (f : Int) (z : Int) = ((f : Int), (z : Int)) := by
  simp only [placeF, widthF, imax_eq, imin_eq]
  have e1 : max 0 (min (f : Int) 62) = f := by omega
  rw [e1, w64 (x := 62 - (f : Int)) (by omega) (by omega)]
  have e2 : max 0 (min (z : Int) (62 - f)) = z := by omega
  rw [e2]
theorem u64_mod (v : Int) {k : Nat} (h : k ≤ 62) : ((u64 v % 2 ^ k : Nat) : Int) = v % 2 ^ k := by
  have := lowF_mod v k (by omega) (by omega)
  rw [lowF_eq, widthF_id (by omega) (by omega)] at this
  exact this
theorem fput_bits {N V f z : Nat} (hN : N < 2 ^ 62) (hV : V < 2 ^ z) (h : f + z ≤ 62) :
    (N ^^^ (N &&& (2 ^ z - 1) * 2 ^ f)) ||| V * 2 ^ f = 2 ^ f * (2 ^ z * (N / 2 ^ (f + z)) + V) + N % 2 ^ f := by
  apply Nat.eq_of_testBit_eq
  intro i
  rw [Nat.testBit_two_pow_mul_add _ (Nat.mod_lt _ (Nat.pow_pos (by omega))), Nat.testBit_or, xor_and_testBit, Nat.testBit_mul_two_pow, Nat.testBit_mul_two_pow, Nat.testBit_two_pow_sub_one]
  by_cases h1 : i < f
  · rw [if_pos h1, Nat.testBit_mod_two_pow]
    have e : decide (f ≤ i) = false := by simp; omega
    simp [e, h1]
  · rw [if_neg h1, Nat.testBit_two_pow_mul_add _ hV]
    have e : decide (f ≤ i) = true := by simp; omega
    by_cases h2 : i - f < z
    · simp [e, h2]
    · rw [if_neg h2, Nat.testBit_div_two_pow]
      have e3 : V.testBit (i - f) = false := Nat.testBit_lt_two_pow (Nat.lt_of_lt_of_le hV (pow_le (by omega)))
      have e4 : i - f - z + (f + z) = i := by omega
      have e5 : f + z + (i - f - z) = i := by omega
      simp [e, h2, e3, e4, e5]
theorem getF_nat {n f z : Nat} (hn : n < 2 ^ 62) (h : f + z ≤ 62) : getF (n : Int) (f : Int) (z : Int) = ((n / 2 ^ f % 2 ^ z : Nat) : Int) := by
  have hl : lowF (n : Int) 62 = ((u64 (n : Int) % 2 ^ 62 : Nat) : Int) := lowF_eq n 62
  rw [u64_nat (by omega), Nat.mod_eq_of_lt hn] at hl
  unfold getF
  rw [placeF_id h, hl]
  simp only
  rw [shr_eq (by omega), lowF_eq, widthF_id (by omega) (by omega), u64_nat (Nat.lt_of_le_of_lt (Nat.div_le_self _ _) (by omega))]
  simp
theorem putF_nat {n f z : Nat} (v : Int) (hn : n < 2 ^ 62) (h : f + z ≤ 62) : putF (n : Int) (f : Int) (z : Int) v = ((2 ^ f * (2 ^ z * (n / 2 ^ (f + z)) + u64 v % 2 ^ z) + n % 2 ^ f : Nat) : Int) := by
  have hz : 2 ^ f * 2 ^ z ≤ 2 ^ 62 := by rw [← Nat.pow_add]; exact pow_le h
  have hz0 : 0 < 2 ^ z := Nat.pow_pos (by omega)
  have hf0 : 0 < 2 ^ f := Nat.pow_pos (by omega)
  have hV : u64 v % 2 ^ z < 2 ^ z := Nat.mod_lt _ hz0
  have hl : lowF (n : Int) 62 = ((u64 (n : Int) % 2 ^ 62 : Nat) : Int) := lowF_eq n 62
  rw [u64_nat (by omega), Nat.mod_eq_of_lt hn] at hl
  have hv : lowF v z = ((u64 v % 2 ^ z : Nat) : Int) := by rw [lowF_eq, widthF_id (by omega) (by omega)]; simp
  have b1 : (2 ^ z - 1) * 2 ^ f < 2 ^ 63 := by
    have : (2 ^ z - 1) * 2 ^ f ≤ 2 ^ z * 2 ^ f := Nat.mul_le_mul_right _ (by omega)
    rw [Nat.mul_comm (2 ^ z)] at this
    omega
  have b2 : u64 v % 2 ^ z * 2 ^ f < 2 ^ 63 := by
    have : u64 v % 2 ^ z * 2 ^ f ≤ 2 ^ z * 2 ^ f := Nat.mul_le_mul_right _ (by omega)
    rw [Nat.mul_comm (2 ^ z)] at this
    omega
  have key := fput_bits hn hV h
  have b3 : 2 ^ f * (2 ^ z * (n / 2 ^ (f + z)) + u64 v % 2 ^ z) + n % 2 ^ f < 2 ^ 62 := by
    rw [← key]
    refine Nat.or_lt_two_pow (Nat.xor_lt_two_pow hn (Nat.lt_of_le_of_lt Nat.and_le_left hn)) ?_
    have : u64 v % 2 ^ z * 2 ^ f < 2 ^ z * 2 ^ f := Nat.mul_lt_mul_of_pos_right hV hf0
    rw [Nat.mul_comm (2 ^ z)] at this
    omega
  rw [← key]
  unfold putF
  rw [placeF_id h]
  simp only
  rw [hl, hv, mask_eq (by omega), shl_eq b1 (by omega), shl_eq b2 (by omega)]
  have u1 : u64 (n : Int) = n := u64_nat (by omega)
  have u2 : u64 (((2 ^ z - 1) * 2 ^ f : Nat) : Int) = (2 ^ z - 1) * 2 ^ f := u64_nat (by omega)
  have u3 : u64 ((u64 v % 2 ^ z * 2 ^ f : Nat) : Int) = u64 v % 2 ^ z * 2 ^ f := u64_nat (by omega)
  rw [landNot_nat _ _ (by rw [u1]; omega), u1, u2]
  have u4 : u64 ((n ^^^ n &&& (2 ^ z - 1) * 2 ^ f : Nat) : Int) = n ^^^ (n &&& (2 ^ z - 1) * 2 ^ f) := u64_nat (by
    have : n ^^^ (n &&& (2 ^ z - 1) * 2 ^ f) < 2 ^ 62 := Nat.xor_lt_two_pow hn (Nat.lt_of_le_of_lt Nat.and_le_left hn)
    omega)
  rw [lor_nat _ _ (by rw [u3, u4, key]; omega), u3, u4]

end Go.Proofs.Ytblnigjmcjpopaa
