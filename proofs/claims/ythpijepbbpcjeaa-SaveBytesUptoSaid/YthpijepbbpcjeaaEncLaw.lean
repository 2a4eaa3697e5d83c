/- Numbers as bytes, seven bits each: plain functions. -/
import Derived.Test.YthpijepbbpcjeaaCore
namespace Go.Proofs.Ythpijepbbpcjeaa
open Go.Fw
set_option linter.unusedVariables false
set_option linter.unusedSimpArgs false

def enc7 (u : Nat) : List Int := if u < 128 then [(u : Int)] else ((u % 128 + 128 : Nat) : Int) :: enc7 (u / 128)
termination_by u
decreasing_by omega
theorem enc7_lt {u : Nat} (h : u < 128) : enc7 u = [(u : Int)] := by rw [enc7, if_pos h]
theorem enc7_ge {u : Nat} (h : ¬ u < 128) : enc7 u = ((u % 128 + 128 : Nat) : Int) :: enc7 (u / 128) := by rw [enc7, if_neg h]
theorem enc7_len : ∀ (k u : Nat), u < 128 ^ (k + 1) → (enc7 u).length ≤ k + 1
  | 0, u, h => by rw [enc7_lt (by simpa using h)]; simp
  | k + 1, u, h => by
    by_cases h1 : u < 128
    · rw [enc7_lt h1]; simp
    · rw [enc7_ge h1]
      have h2 : u / 128 < 128 ^ (k + 1) := by
        rw [Nat.pow_succ] at h
        exact Nat.div_lt_of_lt_mul (by rw [Nat.mul_comm]; exact h)
      have := enc7_len k (u / 128) h2
      simp only [List.length_cons]; omega
theorem enc7_10 {u : Nat} (h : u < 18446744073709551616) : (enc7 u).length ≤ 10 := enc7_len 9 u (Nat.lt_of_lt_of_le h (by decide))
theorem enc7_pos (u : Nat) : 0 < (enc7 u).length := by
  by_cases h1 : u < 128
  · rw [enc7_lt h1]; simp
  · rw [enc7_ge h1]; simp
def zig (n : Int) : Nat := if n < 0 then (-(2 * n) - 1).toNat else (2 * n).toNat
def i64P (n : Int) : Prop := -9223372036854775808 ≤ n ∧ n ≤ 9223372036854775807
theorem zig_lt {n : Int} (h : i64P n) : zig n < 18446744073709551616 := by
  unfold i64P at h; unfold zig; split <;> omega
def encI (n : Int) : List Int := enc7 (zig n)
theorem encI_len {n : Int} (h : i64P n) : (encI n).length ≤ 10 := enc7_10 (zig_lt h)
def encAll (l : List Int) : List Int := l.flatMap encI
theorem encAll_nil : encAll [] = [] := rfl
theorem encAll_cons (n : Int) (l : List Int) : encAll (n :: l) = encI n ++ encAll l := rfl
theorem encAll_append (l m : List Int) : encAll (l ++ m) = encAll l ++ encAll m := by unfold encAll; rw [List.flatMap_append]
theorem encAll_len {l : List Int} (h : ∀ n ∈ l, i64P n) : (encAll l).length ≤ 10 * l.length := by
  induction l with
  | nil => simp [encAll]
  | cons x r ih =>
    have h1 := encI_len (h x (List.mem_cons_self ..))
    have h2 := ih fun n hn => h n (List.mem_cons_of_mem _ hn)
    rw [encAll_cons, List.length_append, List.length_cons]; omega
theorem encAll_pos {l : List Int} (h : l ≠ []) : encAll l ≠ [] := by
  cases l with
  | nil => exact absurd rfl h
  | cons x r =>
    rw [encAll_cons]
    intro e
    have := enc7_pos (zig x)
    have e2 : (encI x ++ encAll r).length = 0 := by rw [e]; rfl
    rw [List.length_append] at e2
    unfold encI at e2
    omega
/-- the tail of a number whose last byte so far is d -/
def tail7 (d : Int) (u : Nat) : List Int := if u = 0 then [d] else (d + 128) :: enc7 u
theorem tail7_go {d : Int} {u : Nat} (h : u ≠ 0) : tail7 d u = (d + 128) :: tail7 ((u % 128 : Nat) : Int) (u / 128) := by
  rw [tail7, if_neg h, tail7]
  by_cases h1 : u < 128
  · rw [enc7_lt h1, if_pos (by omega), Nat.mod_eq_of_lt h1]
  · rw [enc7_ge h1, if_neg (by omega)]
    rfl
theorem tail7_first (u : Nat) (b : Nat) (hb : b < 2) : tail7 ((u % 64 * 2 + b : Nat) : Int) (u / 64) = enc7 (2 * u + b) := by
  rw [tail7]
  by_cases h : u / 64 = 0
  · rw [if_pos h, enc7_lt (u := 2 * u + b) (by omega), show u % 64 * 2 + b = 2 * u + b by omega]
  · rw [if_neg h, enc7_ge (u := 2 * u + b) (by omega), show (2 * u + b) / 128 = u / 64 by omega, show (2 * u + b) % 128 = u % 64 * 2 + b by omega]
    rfl

-- operators of uint64 and of bytes
theorem wu64 (x : Int) : IntKind.u64.wrap x = x % 18446744073709551616 := rfl
theorem wu8 (x : Int) : IntKind.u8.wrap x = x % 256 := rfl
theorem shl1_u64 (x : Int) : shl .u64 x 1 = (x * 2) % 18446744073709551616 := rfl
theorem shr_u64 (x : Int) (k : Nat) (hk : k ≤ 64) : shr .u64 x k = x / 2 ^ k := by
  unfold shr
  rw [Int.toNat_natCast, show IntKind.u64.bits = 64 from rfl, Nat.min_eq_left hk, Int.fdiv_eq_ediv_of_nonneg _ (by exact_mod_cast Nat.zero_le _)]
theorem shr7_u64 (x : Int) : shr .u64 x 7 = x / 128 := shr_u64 x 7 (by decide)
theorem shr6_u64 (x : Int) : shr .u64 x 6 = x / 64 := shr_u64 x 6 (by decide)
theorem shr1_u64 (x : Int) : shr .u64 x 1 = x / 2 := shr_u64 x 1 (by decide)
theorem landu_nat {a b : Nat} (ha : a < 2 ^ 64) (hb : b < 2 ^ 64) : land .u64 (a : Int) (b : Int) = ((a &&& b : Nat) : Int) := by
  show (((BitVec.ofInt 64 (a : Int) &&& BitVec.ofInt 64 (b : Int)).toNat : Nat) : Int) % 18446744073709551616 = _
  rw [BitVec.toNat_and, ofInt_toNat, ofInt_toNat, u64_nat ha, u64_nat hb]
  have := Nat.and_lt_two_pow a hb
  omega
theorem land_u64 {x : Int} (h : 0 ≤ x ∧ x < 18446744073709551616) (k : Nat) (hk : k < 63) : land .u64 x ((2 ^ k - 1 : Nat) : Int) = x % ((2 ^ k : Nat) : Int) := by
  obtain ⟨n, rfl⟩ := Int.eq_ofNat_of_zero_le h.1
  have hp : 2 ^ k ≤ 2 ^ 63 := Nat.pow_le_pow_right (by omega) (by omega)
  rw [landu_nat (by omega) (by omega), Nat.and_two_pow_sub_one_eq_mod, Int.natCast_emod]
theorem land63_u64 {x : Int} (h : 0 ≤ x ∧ x < 18446744073709551616) : land .u64 x 63 = x % 64 := land_u64 h 6 (by decide)
theorem land127_u64 {x : Int} (h : 0 ≤ x ∧ x < 18446744073709551616) : land .u64 x 127 = x % 128 := land_u64 h 7 (by decide)
theorem land1_u64 {x : Int} (h : 0 ≤ x ∧ x < 18446744073709551616) : land .u64 x 1 = x % 2 := land_u64 h 1 (by decide)
theorem lnot_u64 {x : Int} (h : 0 ≤ x ∧ x < 18446744073709551616) : lxor .u64 (if IntKind.u64.signed then -1 else IntKind.u64.max) x = 18446744073709551615 - x := by
  obtain ⟨n, rfl⟩ := Int.eq_ofNat_of_zero_le h.1
  have hn : n < 2 ^ 64 := by omega
  show (((BitVec.ofInt 64 18446744073709551615 ^^^ BitVec.ofInt 64 (n : Int)).toNat : Nat) : Int) % 18446744073709551616 = _
  have e : BitVec.ofInt 64 18446744073709551615 = BitVec.allOnes 64 := by decide
  rw [e, BitVec.allOnes_xor, BitVec.toNat_not, ofInt_toNat, u64_nat hn]
  omega
theorem or128_u8 : ∀ x : Int, 0 ≤ x → x < 256 → lor .u8 x 128 = x % 128 + 128 := fin256 (fun x => lor .u8 x 128 = x % 128 + 128) (by decide +kernel)
theorem shl1_u8 (x : Int) : shl .u8 x 1 = (x * 2) % 256 := rfl

end Go.Proofs.Ythpijepbbpcjeaa
