/- The lines of a port, bit by bit and at once. -/
import Derived.Test.YtjggjnjmnmdgaaaRefLaw
namespace Go.Proofs.Ytjggjnjmnmdgaaa
open Go.Fw
set_option linter.unusedVariables false
set_option linter.unusedSimpArgs false

theorem land1q (c : Int) : land .i64 c 1 = ((u64 c % 2 : Nat) : Int) := by
  have e : u64 c &&& u64 1 = u64 c % 2 := by
    have : u64 1 = 2 ^ 1 - 1 := by decide
    rw [this, Nat.and_two_pow_sub_one_eq_mod]
  rw [land_nat _ _ (by rw [e]; omega), e]
theorem bit_of {a k : Nat} (h : a < 2 ^ 63) (hk : k ≤ 62) : land .i64 (shr .i64 (a : Int) (k : Int)) 1 = ((a / 2 ^ k % 2 : Nat) : Int) := by
  have : a / 2 ^ k < 2 ^ 63 := Nat.lt_of_le_of_lt (Nat.div_le_self _ _) h
  rw [shr_eq (by omega), land1q, u64_nat (by omega)]
def bothF (n : List Int) (m : Int) : Nat → Int
  | 0 => 0
  | k + 1 => IntKind.i64.wrap (bothF n m k + shl .i64 (land .i64 (shr .i64 (n.getD (land .i64 (shr .i64 m k) 1).toNat 0) k) 1) k)
theorem both_nat (x l m : Nat) (hx : x < 256) (hl : l < 256) (hm : m < 256) : ∀ k, k ≤ 8 → bothF [(x : Int), l, m] m k = ((((l &&& m) ||| (x ^^^ (x &&& m))) % 2 ^ k : Nat) : Int)
  | 0, _ => by simp [bothF, Nat.mod_one]
  | k + 1, h => by
    have ih := both_nat x l m hx hl hm k (by omega)
    generalize hX : (l &&& m) ||| (x ^^^ (x &&& m)) = X at ih ⊢
    have hsel : ∃ s : Nat, ([(x : Int), l, m].getD (land .i64 (shr .i64 (m : Int) k) 1).toNat 0) = (s : Int) ∧ s < 256 ∧ s / 2 ^ k % 2 = X / 2 ^ k % 2 := by
      have e1 : X.testBit k = ((l.testBit k && m.testBit k) || (x.testBit k && !m.testBit k)) := by
        rw [← hX, Nat.testBit_or, Nat.testBit_and, xor_and_testBit]
      rw [bit_of (by omega) (by omega)]
      rcases Nat.mod_two_eq_zero_or_one (m / 2 ^ k) with h0 | h0
      · refine ⟨x, by rw [h0]; rfl, hx, ?_⟩
        rw [← Nat.toNat_testBit, ← Nat.toNat_testBit, e1]
        have : m.testBit k = false := by rw [Nat.testBit_eq_decide_div_mod_eq, h0]; rfl
        rw [this]; simp
      · refine ⟨l, by rw [h0]; rfl, hl, ?_⟩
        rw [← Nat.toNat_testBit, ← Nat.toNat_testBit, e1]
        have : m.testBit k = true := by rw [Nat.testBit_eq_decide_div_mod_eq, h0]; rfl
        rw [this]; simp
    obtain ⟨s, hs, hs2, hs3⟩ := hsel
    have hp : 2 ^ (k + 1) ≤ 2 ^ 8 := pow_le h
    have hp0 : 0 < 2 ^ k := Nat.pow_pos (by omega)
    have hb : X / 2 ^ k % 2 ≤ 1 := by omega
    have hmul : X / 2 ^ k % 2 * 2 ^ k ≤ 1 * 2 ^ k := Nat.mul_le_mul_right _ hb
    have hr : X % 2 ^ k < 2 ^ k := Nat.mod_lt _ hp0
    rw [Nat.pow_succ] at hp
    rw [bothF, hs, bit_of (by omega) (by omega), hs3, ih, shl_eq (by omega) (by omega), w64 (by omega) (by omega), Nat.pow_succ, Nat.mod_mul, Nat.mul_comm (2 ^ k)]
    omega
theorem both_eq (x l m : Int) (hx : 0 ≤ x ∧ x < 256) (hl : 0 ≤ l ∧ l < 256) (hm : 0 ≤ m ∧ m < 256) : bothF [x, l, m] m 8 = lor .i64 (land .i64 l m) (landNot .i64 x m) := by
  obtain ⟨x, rfl⟩ := Int.eq_ofNat_of_zero_le hx.1
  obtain ⟨l, rfl⟩ := Int.eq_ofNat_of_zero_le hl.1
  obtain ⟨m, rfl⟩ := Int.eq_ofNat_of_zero_le hm.1
  have h1 : l &&& m < 2 ^ 8 := Nat.and_lt_two_pow _ (by omega)
  have h2 : x ^^^ (x &&& m) < 2 ^ 8 := Nat.xor_lt_two_pow (by omega) (Nat.and_lt_two_pow _ (by omega))
  have h3 : (l &&& m) ||| (x ^^^ (x &&& m)) < 2 ^ 8 := Nat.or_lt_two_pow h1 h2
  rw [both_nat x l m (by omega) (by omega) (by omega) 8 (by omega), Nat.mod_eq_of_lt h3]
  have e1 : land .i64 (l : Int) m = ((l &&& m : Nat) : Int) := by
    rw [land_nat _ _ (by rw [u64_nat (by omega), u64_nat (by omega)]; omega), u64_nat (by omega), u64_nat (by omega)]
  have e2 : landNot .i64 (x : Int) m = ((x ^^^ (x &&& m) : Nat) : Int) := by
    rw [landNot_nat _ _ (by rw [u64_nat (by omega)]; omega), u64_nat (by omega), u64_nat (by omega)]
  rw [e1, e2, lor_nat _ _ (by rw [u64_nat (by omega), u64_nat (by omega)]; omega), u64_nat (by omega), u64_nat (by omega)]

end Go.Proofs.Ytjggjnjmnmdgaaa
