/- Fields of numbers, by division. -/
import Derived.Test.YtjggjnjmnmdgaaaBitFields
import Derived.Test.YtjggjnjmnmdgaaaChip
namespace Go.Proofs.Ytjggjnjmnmdgaaa
open Go.Fw
set_option linter.unusedVariables false
set_option linter.unusedSimpArgs false
set_option maxRecDepth 100000

theorem placeF_id {f z : Nat} (h : f + z ≤ 62) : placeF (f : Int) (z : Int) = ((f : Int), (z : Int)) := by
  simp only [placeF, widthF, imax_eq, imin_eq]
  have e1 : max 0 (min (f : Int) 62) = f := by omega
  rw [e1, w64 (x := 62 - (f : Int)) (by omega) (by omega)]
  have e2 : max 0 (min (z : Int) (62 - f)) = z := by omega
  rw [e2]
theorem u64_mod (v : Int) {k : Nat} (h : k ≤ 62) : ((u64 v % 2 ^ k : Nat) : Int) = v % 2 ^ k := by
  have := lowF_mod v k (by omega) (by omega)
  rw [lowF_eq, widthF_id (by omega) (by omega)] at this
  exact this
theorem getF_nat {n f z : Nat} (hn : n < 2 ^ 62) (h : f + z ≤ 62) : getF (n : Int) (f : Int) (z : Int) = ((n / 2 ^ f % 2 ^ z : Nat) : Int) := by
  rw [getF_eq (placeF_id h) h, u64_nat (by omega), Nat.mod_eq_of_lt hn]
theorem putF_nat {n f z : Nat} (v : Int) (hn : n < 2 ^ 62) (h : f + z ≤ 62) : putF (n : Int) (f : Int) (z : Int) v = ((2 ^ f * (2 ^ z * (n / 2 ^ (f + z)) + u64 v % 2 ^ z) + n % 2 ^ f : Nat) : Int) := by
  obtain ⟨f', z', h', h1, h2, h3⟩ := place_eq (f : Int) (z : Int)
  rw [placeF_id h] at h3
  have ef : f = f' := by have := congrArg Prod.fst h3; simp at this; omega
  have ez : z = z' := by have := congrArg Prod.snd h3; simp at this; omega
  subst ef; subst ez
  have hV : u64 v % 2 ^ z < 2 ^ z := Nat.mod_lt _ (Nat.pow_pos (by omega))
  have key := put_bits hn hV h
  have b3 : 2 ^ f * (2 ^ z * (n / 2 ^ (f + z)) + u64 v % 2 ^ z) + n % 2 ^ f < 2 ^ 62 := by
    rw [← key]
    refine Nat.or_lt_two_pow (Nat.xor_lt_two_pow hn (Nat.lt_of_le_of_lt Nat.and_le_left hn)) ?_
    have hz : 2 ^ f * 2 ^ z ≤ 2 ^ 62 := by rw [← Nat.pow_add]; exact pow_le h
    have : u64 v % 2 ^ z * 2 ^ f < 2 ^ z * 2 ^ f := Nat.mul_lt_mul_of_pos_right hV (Nat.pow_pos (by omega))
    rw [Nat.mul_comm (2 ^ z)] at this
    omega
  rw [field_put, cpF_eq h h1 h2, u64_nat (by omega), Nat.mod_eq_of_lt hn, of2F_bits _ _ (by omega), Nat.mod_eq_of_lt b3]

def getM : PSpec := ⟨[gi, gi, gi], fun (n, a, s, _) => (some (0 ≤ n ∧ n < 4611686018427387904 ∧ 0 ≤ a ∧ 0 ≤ s ∧ a + s ≤ 62), I (n / 2 ^ a.toNat % 2 ^ s.toNat), [])⟩
theorem getM_ok : Good Try.prog 19 getM.spec := by
  have hT := tab_ok (fs := [(84, placeS.spec), (33, lowS.spec)]) tree_ok
  have hP : SpecsOk Try.prog (tab tree [(84, placeS.spec), (33, lowS.spec)]) := specs_cons place_ok (specs_cons low_ok specs_nil)
  refine getM.good (fn := Try.f19) hT hP Try.func19 (by kernel_rfl) rfl fun (n a s : Int) hp => ?_
  obtain ⟨h1, h2, h3, h4, h5⟩ : 0 ≤ n ∧ n < 4611686018427387904 ∧ 0 ≤ a ∧ 0 ≤ s ∧ a + s ≤ 62 := hp _ rfl
  repeat' first
    | (refine Go.mk ?_; conv => whnf)
    | refine Need.go ?_ ?_
    | refine NilG.go (fun _ => ?_) (fun _ => ?_)
    | refine Br.dec (fun _ => ?_) (fun _ => ?_)
    | refine Br.go (fun _ => ?_) (fun _ => ?_)
    | refine draw_go hT hP mixed ?_
    | refine round_go hT hP ?_
  · exact (placeF_nn a s).1
  · refine .mk [] [] _ rfl rfl rfl rfl rfl rfl (imm_int ?_)
    show getF n a s = _
    obtain ⟨n, rfl⟩ := Int.eq_ofNat_of_zero_le h1
    obtain ⟨a, rfl⟩ := Int.eq_ofNat_of_zero_le h3
    obtain ⟨s, rfl⟩ := Int.eq_ofNat_of_zero_le h4
    rw [getF_nat (by omega) (by omega)]
    simp
def putM : PSpec := ⟨[gi, gi, gi, gi], fun (n, a, s, v, _) => (some (0 ≤ n ∧ n < 4611686018427387904 ∧ 0 ≤ a ∧ 0 ≤ s ∧ a + s ≤ 62), I (2 ^ a.toNat * (2 ^ s.toNat * (n / 2 ^ (a + s).toNat) + v % 2 ^ s.toNat) + n % 2 ^ a.toNat), [])⟩
theorem putM_ok : Good Try.prog 20 putM.spec := by
  have hT := tab_ok (fs := [(84, placeS.spec), (33, lowS.spec)]) tree_ok
  have hP : SpecsOk Try.prog (tab tree [(84, placeS.spec), (33, lowS.spec)]) := specs_cons place_ok (specs_cons low_ok specs_nil)
  refine putM.good (fn := Try.f20) hT hP Try.func20 (by kernel_rfl) rfl fun (n a s v : Int) hp => ?_
  obtain ⟨h1, h2, h3, h4, h5⟩ : 0 ≤ n ∧ n < 4611686018427387904 ∧ 0 ≤ a ∧ 0 ≤ s ∧ a + s ≤ 62 := hp _ rfl
  repeat' first
    | (refine Go.mk ?_; conv => whnf)
    | refine Need.go ?_ ?_
    | refine NilG.go (fun _ => ?_) (fun _ => ?_)
    | refine Br.dec (fun _ => ?_) (fun _ => ?_)
    | refine Br.go (fun _ => ?_) (fun _ => ?_)
    | refine draw_go hT hP mixed ?_
    | refine round_go hT hP ?_
  · exact (placeF_nn a s).2
  · exact (placeF_nn a s).1
  · exact (placeF_nn a s).1
  · refine .mk [] [] _ rfl rfl rfl rfl rfl rfl (imm_int ?_)
    show putF n a s v = _
    obtain ⟨n, rfl⟩ := Int.eq_ofNat_of_zero_le h1
    obtain ⟨a, rfl⟩ := Int.eq_ofNat_of_zero_le h3
    obtain ⟨s, rfl⟩ := Int.eq_ofNat_of_zero_le h4
    have e : ((a : Int) + (s : Int)).toNat = a + s := by omega
    rw [putF_nat v (by omega) (by omega), e, ← u64_mod v (by omega)]
    simp

end Go.Proofs.Ytjggjnjmnmdgaaa
