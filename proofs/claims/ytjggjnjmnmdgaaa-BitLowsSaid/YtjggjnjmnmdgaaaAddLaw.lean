/- Sums, differences and turns of numbers, and of their digits. -/
import Derived.Test.YtjggjnjmnmdgaaaRef2
namespace Go.Proofs.Ytjggjnjmnmdgaaa
open Go.Fw
set_option linter.unusedVariables false
set_option linter.unusedSimpArgs false

theorem limit_width (n : Int) : limitF n 0 62 = widthF n := by
  simp only [widthF, imax_eq, imin_eq]; unfold limitF; (split <;> try split) <;> omega
theorem mod_split (A k : Nat) : A % 2 ^ (k + 1) = A % 2 + 2 * (A / 2 % 2 ^ k) := by
  rw [Nat.pow_succ, Nat.mul_comm, Nat.mod_mul]
theorem land1 (c : Int) : land .i64 c 1 = ((u64 c % 2 : Nat) : Int) := by
  have e : u64 c &&& u64 1 = u64 c % 2 := by
    have : u64 1 = 2 ^ 1 - 1 := by decide
    rw [this, Nat.and_two_pow_sub_one_eq_mod]
  rw [land_nat _ _ (by rw [e]; omega), e]
theorem shl_one {b : Nat} (h : b ≤ 62) : shl .i64 1 (b : Int) = ((2 ^ b : Nat) : Int) := by
  have h1 : 2 ^ b ≤ 2 ^ 62 := pow_le h
  have := shl_eq (x := 1) (b := b) (by omega) h
  simpa using this

theorem adder_bits : ∀ (k A B C : Nat), k ≤ 62 → C ≤ 1 → adderF (bitsN A k) (bitsN B k) (C : Int) = (bitsN (A % 2 ^ k + B % 2 ^ k + C) k, (((A % 2 ^ k + B % 2 ^ k + C) / 2 ^ k : Nat) : Int))
  | 0, A, B, C, _, _ => by simp [bitsN, adderF, Nat.mod_one]
  | k + 1, A, B, C, hk, hC => by
    have hs : addSum ((A % 2 : Nat) : Int) ((B % 2 : Nat) : Int) (C : Int) = ((A % 2 + B % 2 + C : Nat) : Int) := by
      unfold addSum
      rw [w64 (x := ((A % 2 : Nat) : Int) + ((B % 2 : Nat) : Int)) (by omega) (by omega), w64 (by omega) (by omega)]
      omega
    have hd : IntKind.i64.wrap ((((A % 2 + B % 2 + C : Nat) : Int)).tdiv 2) = (((A % 2 + B % 2 + C) / 2 : Nat) : Int) := by
      rw [Int.tdiv_eq_ediv_of_nonneg (by omega), w64 (by omega) (by omega)]
      omega
    have hm : (((A % 2 + B % 2 + C : Nat) : Int)).tmod 2 = (((A % 2 + B % 2 + C) % 2 : Nat) : Int) := by
      rw [Int.tmod_eq_emod_of_nonneg (by omega)]
      omega
    have ih := adder_bits k (A / 2) (B / 2) ((A % 2 + B % 2 + C) / 2) (by omega) (by omega)
    rw [bitsN_succ, bitsN_succ, bitsN_succ, adderF]
    show ((addSum ((A % 2 : Nat) : Int) ((B % 2 : Nat) : Int) (C : Int)).tmod 2 :: (adderF (bitsN (A / 2) k) (bitsN (B / 2) k) (IntKind.i64.wrap ((addSum ((A % 2 : Nat) : Int) ((B % 2 : Nat) : Int) (C : Int)).tdiv 2))).1,
      (adderF (bitsN (A / 2) k) (bitsN (B / 2) k) (IntKind.i64.wrap ((addSum ((A % 2 : Nat) : Int) ((B % 2 : Nat) : Int) (C : Int)).tdiv 2))).2) = _
    rw [hs, hd, hm, ih, mod_split, mod_split]
    have e1 : (A % 2 + 2 * (A / 2 % 2 ^ k) + (B % 2 + 2 * (B / 2 % 2 ^ k)) + C) % 2 = (A % 2 + B % 2 + C) % 2 := by omega
    have e2 : (A % 2 + 2 * (A / 2 % 2 ^ k) + (B % 2 + 2 * (B / 2 % 2 ^ k)) + C) / 2 = A / 2 % 2 ^ k + B / 2 % 2 ^ k + (A % 2 + B % 2 + C) / 2 := by omega
    have e3 : (A % 2 + 2 * (A / 2 % 2 ^ k) + (B % 2 + 2 * (B / 2 % 2 ^ k)) + C) / 2 ^ (k + 1) = (A / 2 % 2 ^ k + B / 2 % 2 ^ k + (A % 2 + B % 2 + C) / 2) / 2 ^ k := by
      rw [Nat.pow_succ, Nat.mul_comm (2 ^ k) 2, ← Nat.div_div_eq_div_mul, e2]
    rw [e1, e2, e3]
theorem inv_bits : ∀ (k B : Nat), invF (bitsN B k) = bitsN (2 ^ k - 1 - B % 2 ^ k) k
  | 0, B => rfl
  | k + 1, B => by
    have hp : 0 < 2 ^ k := Nat.pow_pos (by omega)
    have hq : B / 2 % 2 ^ k < 2 ^ k := Nat.mod_lt _ hp
    rw [bitsN_succ, bitsN_succ, mod_split, Nat.pow_succ]
    have e1 : (2 ^ k * 2 - 1 - (B % 2 + 2 * (B / 2 % 2 ^ k))) % 2 = 1 - B % 2 := by omega
    have e2 : (2 ^ k * 2 - 1 - (B % 2 + 2 * (B / 2 % 2 ^ k))) / 2 = 2 ^ k - 1 - B / 2 % 2 ^ k := by omega
    rw [e1, e2, ← inv_bits k (B / 2)]
    show IntKind.i64.wrap (1 - ((B % 2 : Nat) : Int)) :: invF (bitsN (B / 2) k) = _
    rw [w64 (by omega) (by omega)]
    congr 1
    omega

/-- the width as a natural number -/
theorem width_nat (n : Int) : ∃ k : Nat, k ≤ 62 ∧ widthF n = (k : Int) ∧ ∀ a, dig2F a n = bitsN (u64 a) k := by
  obtain ⟨h1, h2⟩ := widthF_in n
  refine ⟨(widthF n).toNat, by omega, by omega, fun a => ?_⟩
  unfold dig2F
  rw [limit_width]
  exact digF_eq a _ (by omega)
theorem low_nat (a : Int) {k : Nat} (h : k ≤ 62) : lowF a (k : Int) = ((u64 a % 2 ^ k : Nat) : Int) := by
  rw [lowF_eq, widthF_id (by omega) (by omega)]; simp

theorem add_fact {a b c n : Int} {k : Nat} (h : k ≤ 62) (hw : widthF n = (k : Int)) :
    addF a b c n = ((((u64 a % 2 ^ k + u64 b % 2 ^ k + u64 c % 2) % 2 ^ k : Nat) : Int), (((u64 a % 2 ^ k + u64 b % 2 ^ k + u64 c % 2) / 2 ^ k : Nat) : Int)) := by
  have h3 : 2 ^ k ≤ 2 ^ 62 := pow_le h
  have hp : 0 < 2 ^ k := Nat.pow_pos (by omega)
  have ha : u64 a % 2 ^ k < 2 ^ k := Nat.mod_lt _ hp
  have hb : u64 b % 2 ^ k < 2 ^ k := Nat.mod_lt _ hp
  have e : IntKind.i64.wrap (IntKind.i64.wrap (((u64 a % 2 ^ k : Nat) : Int) + ((u64 b % 2 ^ k : Nat) : Int)) + ((u64 c % 2 : Nat) : Int)) = ((u64 a % 2 ^ k + u64 b % 2 ^ k + u64 c % 2 : Nat) : Int) := by
    rw [w64 (x := ((u64 a % 2 ^ k : Nat) : Int) + ((u64 b % 2 ^ k : Nat) : Int)) (by omega) (by omega), w64 (by omega) (by omega)]
    omega
  unfold addF
  simp only
  rw [hw, low_nat a h, low_nat b h, land1, e, low_nat _ h, u64_nat (by omega), shr_eq (by omega)]
theorem sub_fact {a b c n : Int} {k : Nat} (h : k ≤ 62) (hw : widthF n = (k : Int)) :
    subF a b c n = ((((u64 a % 2 ^ k + (2 ^ k - 1 - u64 b % 2 ^ k) + (1 - u64 c % 2)) % 2 ^ k : Nat) : Int), 1 - (((u64 a % 2 ^ k + (2 ^ k - 1 - u64 b % 2 ^ k) + (1 - u64 c % 2)) / 2 ^ k : Nat) : Int)) := by
  have h3 : 2 ^ k ≤ 2 ^ 62 := pow_le h
  have hp : 0 < 2 ^ k := Nat.pow_pos (by omega)
  have ha : u64 a % 2 ^ k < 2 ^ k := Nat.mod_lt _ hp
  have hb : u64 b % 2 ^ k < 2 ^ k := Nat.mod_lt _ hp
  have hc : u64 c % 2 < 2 := Nat.mod_lt _ (by omega)
  have e : subD a b c n = ((u64 a % 2 ^ k : Nat) : Int) - ((u64 b % 2 ^ k : Nat) : Int) - ((u64 c % 2 : Nat) : Int) := by
    unfold subD
    rw [hw, low_nat a h, low_nat b h, land1]
    rw [w64 (x := ((u64 a % 2 ^ k : Nat) : Int) - ((u64 b % 2 ^ k : Nat) : Int)) (by omega) (by omega), w64 (by omega) (by omega)]
  unfold subF
  rw [hw, shl_one h, e]
  generalize u64 a % 2 ^ k = A at *
  generalize u64 b % 2 ^ k = B at *
  generalize u64 c % 2 = C at *
  generalize 2 ^ k = p at *
  by_cases hlt : (A : Int) - B - C < 0
  · rw [if_pos hlt, w64 (by omega) (by omega)]
    have e1 : (A + (p - 1 - B) + (1 - C)) / p = 0 := Nat.div_eq_of_lt (by omega)
    have e2 : (A + (p - 1 - B) + (1 - C)) % p = A + (p - 1 - B) + (1 - C) := Nat.mod_eq_of_lt (by omega)
    rw [e1, e2]
    apply Prod.ext
    · show (A : Int) - B - C + p = _
      omega
    · rfl
  · rw [if_neg hlt]
    have e0 : A + (p - 1 - B) + (1 - C) = (A - B - C) + p * 1 := by omega
    have e1 : (A + (p - 1 - B) + (1 - C)) / p = 1 := by rw [e0, Nat.add_mul_div_left _ _ hp, Nat.div_eq_of_lt (by omega)]
    have e2 : (A + (p - 1 - B) + (1 - C)) % p = A - B - C := by rw [e0, Nat.add_mul_mod_self_left, Nat.mod_eq_of_lt (by omega)]
    rw [e1, e2]
    apply Prod.ext
    · show (A : Int) - B - C = _
      omega
    · rfl
theorem rol_fact {a c n : Int} {k : Nat} (h : k ≤ 62) (hw : widthF n = (k : Int)) :
    rolF a c n = ((((2 * (u64 a % 2 ^ k) + u64 c % 2) % 2 ^ k : Nat) : Int), (((2 * (u64 a % 2 ^ k) + u64 c % 2) / 2 ^ k : Nat) : Int)) := by
  have h3 : 2 ^ k ≤ 2 ^ 62 := pow_le h
  have hp : 0 < 2 ^ k := Nat.pow_pos (by omega)
  have ha : u64 a % 2 ^ k < 2 ^ k := Nat.mod_lt _ hp
  have hc : u64 c % 2 < 2 ^ 1 := Nat.mod_lt _ (by omega)
  have e0 : shl .i64 ((u64 a % 2 ^ k : Nat) : Int) 1 = ((u64 a % 2 ^ k * 2 ^ 1 : Nat) : Int) := shl_eq (b := 1) (by omega) (by omega)
  have e1 : u64 a % 2 ^ k * 2 ^ 1 ||| u64 c % 2 = 2 * (u64 a % 2 ^ k) + u64 c % 2 := by
    have := Nat.two_pow_add_eq_or_of_lt hc (u64 a % 2 ^ k)
    rw [Nat.mul_comm _ (2 ^ 1), ← this]
  have e : rolX a c n = ((2 * (u64 a % 2 ^ k) + u64 c % 2 : Nat) : Int) := by
    unfold rolX
    rw [hw, low_nat a h, land1, e0, lor_nat _ _ (by rw [u64_nat (by omega), u64_nat (by omega), e1]; omega), u64_nat (by omega), u64_nat (by omega), e1]
  unfold rolF
  rw [e, hw, low_nat _ h, u64_nat (by omega), shr_eq (by omega)]
theorem ror_fact {a c n : Int} {k : Nat} (h : k ≤ 62) (hw : widthF n = (k : Int)) :
    rorF a c n = ((((2 ^ k * (u64 c % 2) + u64 a % 2 ^ k) / 2 : Nat) : Int), (((2 ^ k * (u64 c % 2) + u64 a % 2 ^ k) % 2 : Nat) : Int)) := by
  have h3 : 2 ^ k ≤ 2 ^ 62 := pow_le h
  have hp : 0 < 2 ^ k := Nat.pow_pos (by omega)
  have ha : u64 a % 2 ^ k < 2 ^ k := Nat.mod_lt _ hp
  have hc : u64 c % 2 ≤ 1 := by omega
  have hm : 2 ^ k * (u64 c % 2) ≤ 2 ^ k * 1 := Nat.mul_le_mul_left _ hc
  have e0 : shl .i64 ((u64 c % 2 : Nat) : Int) (k : Int) = ((u64 c % 2 * 2 ^ k : Nat) : Int) := shl_eq (by rw [Nat.mul_comm]; omega) h
  have e1 : u64 a % 2 ^ k ||| u64 c % 2 * 2 ^ k = 2 ^ k * (u64 c % 2) + u64 a % 2 ^ k := by
    rw [Nat.two_pow_add_eq_or_of_lt ha, Nat.or_comm, Nat.mul_comm]
  have e : rorX a c n = ((2 ^ k * (u64 c % 2) + u64 a % 2 ^ k : Nat) : Int) := by
    unfold rorX
    rw [hw, low_nat a h, land1, e0]
    have e2 : u64 ((u64 c % 2 * 2 ^ k : Nat) : Int) = u64 c % 2 * 2 ^ k := u64_nat (by rw [Nat.mul_comm]; omega)
    have e3 : u64 ((u64 a % 2 ^ k : Nat) : Int) = u64 a % 2 ^ k := u64_nat (by omega)
    rw [lor_nat _ _ (by rw [e2, e3, e1]; omega), e2, e3, e1]
  unfold rorF
  have e4 : shr .i64 ((2 ^ k * (u64 c % 2) + u64 a % 2 ^ k : Nat) : Int) 1 = (((2 ^ k * (u64 c % 2) + u64 a % 2 ^ k) / 2 ^ 1 : Nat) : Int) := shr_eq (b := 1) (by omega)
  rw [e, land1, u64_nat (by omega), e4]

end Go.Proofs.Ytjggjnjmnmdgaaa
