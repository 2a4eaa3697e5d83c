/- Plain arithmetic: numbers of 64 bits, their digits. -/
import Derived.Test.YtblnigjmcjpopaaFw29
namespace Go.Proofs.Ytblnigjmcjpopaa
open Go.Fw
set_option linter.unusedVariables false
set_option linter.unusedSimpArgs false

theorem w64 {x : Int} (h1 : -9223372036854775808 ≤ x) (h2 : x ≤ 9223372036854775807) : IntKind.i64.wrap x = x := by
  rw [IntKind.wrap_i64]; omega

/-- the number below 2^64 -/
def u64 (x : Int) : Nat := (x % 18446744073709551616).toNat
theorem u64_lt (x : Int) : u64 x < 2 ^ 64 := by unfold u64; omega
theorem u64_nat {n : Nat} (h : n < 2 ^ 64) : u64 (n : Int) = n := by unfold u64; omega
theorem ofInt_toNat (x : Int) : (BitVec.ofInt 64 x).toNat = u64 x := by
  rw [BitVec.toNat_ofInt]; rfl

theorem land_nat (x y : Int) (h : u64 x &&& u64 y < 2 ^ 63) : land .i64 x y = ((u64 x &&& u64 y : Nat) : Int) := by
  show IntKind.i64.wrap (((BitVec.ofInt 64 x &&& BitVec.ofInt 64 y).toNat : Nat) : Int) = _
  rw [BitVec.toNat_and, ofInt_toNat, ofInt_toNat]
  exact w64 (by omega) (by omega)
theorem lor_nat (x y : Int) (h : u64 x ||| u64 y < 2 ^ 63) : lor .i64 x y = ((u64 x ||| u64 y : Nat) : Int) := by
  show IntKind.i64.wrap (((BitVec.ofInt 64 x ||| BitVec.ofInt 64 y).toNat : Nat) : Int) = _
  rw [BitVec.toNat_or, ofInt_toNat, ofInt_toNat]
  exact w64 (by omega) (by omega)
theorem landNot_nat (x y : Int) (h : u64 x < 2 ^ 63) : landNot .i64 x y = ((u64 x ^^^ (u64 x &&& u64 y) : Nat) : Int) := by
  have e : (BitVec.ofInt 64 x &&& ~~~(BitVec.ofInt 64 y)) = BitVec.ofInt 64 x ^^^ (BitVec.ofInt 64 x &&& BitVec.ofInt 64 y) := by
    apply BitVec.eq_of_getLsbD_eq
    intro i hi
    simp only [BitVec.getLsbD_and, BitVec.getLsbD_not, BitVec.getLsbD_xor, hi, decide_true, Bool.true_and]
    cases (BitVec.ofInt 64 x).getLsbD i <;> cases (BitVec.ofInt 64 y).getLsbD i <;> rfl
  show IntKind.i64.wrap (((BitVec.ofInt 64 x &&& ~~~(BitVec.ofInt 64 y)).toNat : Nat) : Int) = _
  rw [e, BitVec.toNat_xor, BitVec.toNat_and, ofInt_toNat, ofInt_toNat]
  have h2 : u64 x ^^^ (u64 x &&& u64 y) < 2 ^ 63 := Nat.xor_lt_two_pow h (Nat.lt_of_le_of_lt Nat.and_le_left h)
  exact w64 (by omega) (by omega)

theorem pow_le {a b : Nat} (h : a ≤ b) : 2 ^ a ≤ 2 ^ b := Nat.pow_le_pow_right (by omega) h

/-- 1 << b, less one -/
theorem mask_eq {b : Nat} (h : b ≤ 62) : IntKind.i64.wrap (shl .i64 1 b - 1) = ((2 ^ b - 1 : Nat) : Int) := by
  have h1 : 2 ^ b ≤ 2 ^ 62 := pow_le h
  have h2 : 0 < 2 ^ b := Nat.pow_pos (by omega)
  have e : shl .i64 1 (b : Int) = ((2 ^ b : Nat) : Int) := by
    show IntKind.i64.wrap (1 * 2 ^ (min ((b : Int).toNat) 64)) = _
    have : min ((b : Int).toNat) 64 = b := by omega
    rw [this, Int.one_mul]
    have e2 : (2 : Int) ^ b = ((2 ^ b : Nat) : Int) := by simp
    rw [e2]
    exact w64 (by omega) (by omega)
  rw [e, w64 (by omega) (by omega)]
  omega

theorem shl_eq {x b : Nat} (h : x * 2 ^ b < 2 ^ 63) (hb : b ≤ 62) : shl .i64 (x : Int) (b : Int) = ((x * 2 ^ b : Nat) : Int) := by
  show IntKind.i64.wrap ((x : Int) * 2 ^ (min ((b : Int).toNat) 64)) = _
  have : min ((b : Int).toNat) 64 = b := by omega
  rw [this]
  have e2 : (x : Int) * 2 ^ b = ((x * 2 ^ b : Nat) : Int) := by simp
  rw [e2]
  exact w64 (by omega) (by omega)
theorem shr_eq {x b : Nat} (hb : b ≤ 64) : shr .i64 (x : Int) (b : Int) = ((x / 2 ^ b : Nat) : Int) := by
  show (x : Int).fdiv (2 ^ (min ((b : Int).toNat) 64)) = _
  have : min ((b : Int).toNat) 64 = b := by omega
  rw [this]
  have e2 : (2 : Int) ^ b = ((2 ^ b : Nat) : Int) := by simp
  rw [e2, Int.fdiv_eq_ediv_of_nonneg _ (Int.natCast_nonneg _)]
  simp

/-- the digits, the lowest first -/
def bitsN (m k : Nat) : List Int := (List.range k).map fun i => ((m / 2 ^ i % 2 : Nat) : Int)
theorem bitsN_len (m k : Nat) : (bitsN m k).length = k := by simp [bitsN]
theorem bitsN_succ (m k : Nat) : bitsN m (k + 1) = ((m % 2 : Nat) : Int) :: bitsN (m / 2) k := by
  unfold bitsN
  rw [List.range_succ_eq_map, List.map_cons, List.map_map]
  congr 1
  · simp
  · apply List.map_congr_left
    intro i _
    show ((m / 2 ^ (i + 1) % 2 : Nat) : Int) = ((m / 2 / 2 ^ i % 2 : Nat) : Int)
    rw [Nat.pow_succ, Nat.mul_comm, ← Nat.div_div_eq_div_mul]
theorem bitsN_add (m j : Nat) : ∀ k, bitsN m (j + k) = bitsN m j ++ bitsN (m / 2 ^ j) k := by
  intro k
  unfold bitsN
  rw [List.range_add, List.map_append, List.map_map]
  congr 1
  apply List.map_congr_left
  intro i _
  show ((m / 2 ^ (j + i) % 2 : Nat) : Int) = ((m / 2 ^ j / 2 ^ i % 2 : Nat) : Int)
  rw [Nat.pow_add, ← Nat.div_div_eq_div_mul]
theorem bitsN_mod {m m' k : Nat} (h : m % 2 ^ k = m' % 2 ^ k) : bitsN m k = bitsN m' k := by
  unfold bitsN
  apply List.map_congr_left
  intro i hi
  have hi : i < k := List.mem_range.1 hi
  have key : ∀ x : Nat, x / 2 ^ i % 2 = x % 2 ^ k / 2 ^ i % 2 := by
    intro x
    have e : 2 ^ k = 2 ^ (i + 1) * 2 ^ (k - (i + 1)) := by rw [← Nat.pow_add]; congr 1; omega
    have h1 : x % 2 ^ k % 2 ^ (i + 1) = x % 2 ^ (i + 1) := by rw [e]; exact Nat.mod_mul_right_mod _ _ _
    have h2 : ∀ y : Nat, y / 2 ^ i % 2 = y % 2 ^ (i + 1) / 2 ^ i := by
      intro y
      rw [Nat.pow_succ, Nat.mod_mul_right_div_self]
    rw [h2, h2, h1]
  rw [key m, key m', h]
theorem bitsN_drop (m f k : Nat) (h : f ≤ k) : (bitsN m k).drop f = bitsN (m / 2 ^ f) (k - f) := by
  have : k = f + (k - f) := by omega
  rw [this, bitsN_add, List.drop_left' (bitsN_len _ _)]
  congr 1; omega
theorem bitsN_take (m f k : Nat) (h : f ≤ k) : (bitsN m k).take f = bitsN m f := by
  have : k = f + (k - f) := by omega
  rw [this, bitsN_add, List.take_left' (bitsN_len _ _)]

theorem xor_and_testBit (x y i : Nat) : (x ^^^ (x &&& y)).testBit i = (x.testBit i && !y.testBit i) := by
  rw [Nat.testBit_xor, Nat.testBit_and]
  cases x.testBit i <;> cases y.testBit i <;> rfl

end Go.Proofs.Ytblnigjmcjpopaa
