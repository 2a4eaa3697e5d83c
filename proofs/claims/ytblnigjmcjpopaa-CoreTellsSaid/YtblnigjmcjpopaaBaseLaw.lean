/- What the low bits of a number are as arithmetic. -/
import Derived.Test.YtblnigjmcjpopaaBase
import Derived.Test.YtblnigjmcjpopaaNum
import Derived.Laws.Bits64
namespace Go.Proofs.Ytblnigjmcjpopaa
open Go.Fw
set_option linter.unusedVariables false
set_option linter.unusedSimpArgs false

theorem widthF_in (b : Int) : 0 ≤ widthF b ∧ widthF b ≤ 62 := by
  simp only [widthF, imax_eq, imin_eq]; omega
theorem widthF_id {b : Int} (h1 : 0 ≤ b) (h2 : b ≤ 62) : widthF b = b := by
  simp only [widthF, imax_eq, imin_eq]; omega
theorem lowF_eq (x b : Int) : lowF x b = ((u64 x % 2 ^ (widthF b).toNat : Nat) : Int) := by
  obtain ⟨h1, h2⟩ := widthF_in b
  unfold lowF
  generalize widthF b = w at h1 h2
  obtain ⟨k, rfl⟩ := Int.eq_ofNat_of_zero_le h1
  have hk : k ≤ 62 := by omega
  have h3 : 2 ^ k ≤ 2 ^ 62 := pow_le hk
  have h4 : 0 < 2 ^ k := Nat.pow_pos (by omega)
  rw [mask_eq hk]
  have e : u64 ((2 ^ k - 1 : Nat) : Int) = 2 ^ k - 1 := u64_nat (by omega)
  have e2 : u64 x &&& (2 ^ k - 1) = u64 x % 2 ^ k := Nat.and_two_pow_sub_one_eq_mod _ _
  have h5 : u64 x % 2 ^ k < 2 ^ k := Nat.mod_lt _ h4
  rw [land_nat _ _ (by rw [e, e2]; omega), e, e2]
  simp

end Go.Proofs.Ytblnigjmcjpopaa
