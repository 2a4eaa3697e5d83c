/- Fields of numbers, by division. -/
import Derived.Test.YtblnigjmcjpopaaField
namespace Go.Proofs.Ytblnigjmcjpopaa
open Go.Fw
set_option linter.unusedVariables false
set_option linter.unusedSimpArgs false
set_option maxRecDepth 100000

def getM : PSpec := ⟨[gi, gi, gi], fun (n, a, s, _) => (some (0 ≤ n ∧ n < 4611686018427387904 ∧ 0 ≤ a ∧ 0 ≤ s ∧ a + s ≤ 62), I (n / 2 ^ a.toNat % 2 ^ s.toNat), [])⟩
theorem getM_ok : Good Try.prog 143 getM.spec := by
  have hT := tab_ok (fs := [(186, placeS.spec), (70, lowS.spec)]) tree_ok
  have hP : SpecsOk Try.prog (tab tree [(186, placeS.spec), (70, lowS.spec)]) := specs_cons place_ok (specs_cons low_ok specs_nil)
  refine getM.good (fn := Try.f143) hT hP Try.func143 (by kernel_rfl) rfl fun (n a s : Int) hp => ?_
  obtain ⟨h1, h2, h3, h4, h5⟩ : 0 ≤ n ∧ n < 4611686018427387904 ∧ 0 ≤ a ∧ 0 ≤ s ∧ a + s ≤ 62 := hp _ rfl
  repeat' first
    | (refine Go.mk ?_; conv => whnf)
    | refine Need.go ?_ ?_
    | refine NilG.go (fun _ => ?_) (fun _ => ?_)
    | refine Br.dec (fun _ => ?_) (fun _ => ?_)
    | refine Br.go (fun _ => ?_) (fun _ => ?_)
    | refine draw_go hT hP mixed ?_
    | refine round_go hT hP ?_
  · exact (placeF_nn a s).1
  · refine .mk [] [] _ rfl rfl rfl rfl rfl rfl (imm_int ?_)
    show getF n a s = _
    obtain ⟨n, rfl⟩ := Int.eq_ofNat_of_zero_le h1
    obtain ⟨a, rfl⟩ := Int.eq_ofNat_of_zero_le h3
    obtain ⟨s, rfl⟩ := Int.eq_ofNat_of_zero_le h4
    rw [getF_nat (by omega) (by omega)]
    simp
def putM : PSpec := ⟨[gi, gi, gi, gi], fun (n, a, s, v, _) => (some (0 ≤ n ∧ n < 4611686018427387904 ∧ 0 ≤ a ∧ 0 ≤ s ∧ a + s ≤ 62), I (2 ^ a.toNat * (2 ^ s.toNat * (n / 2 ^ (a + s).toNat) + v % 2 ^ s.toNat) + n % 2 ^ a.toNat), [])⟩
theorem putM_ok : Good Try.prog 142 putM.spec := by
  have hT := tab_ok (fs := [(186, placeS.spec), (70, lowS.spec)]) tree_ok
  have hP : SpecsOk Try.prog (tab tree [(186, placeS.spec), (70, lowS.spec)]) := specs_cons place_ok (specs_cons low_ok specs_nil)
  refine putM.good (fn := Try.f142) hT hP Try.func142 (by kernel_rfl) rfl fun (n a s v : Int) hp => ?_
  obtain ⟨h1, h2, h3, h4, h5⟩ : 0 ≤ n ∧ n < 4611686018427387904 ∧ 0 ≤ a ∧ 0 ≤ s ∧ a + s ≤ 62 := hp _ rfl
  repeat' first
    | (refine Go.mk ?_; conv => whnf)
    | refine Need.go ?_ ?_
    | refine NilG.go (fun _ => ?_) (fun _ => ?_)
    | refine Br.dec (fun _ => ?_) (fun _ => ?_)
    | refine Br.go (fun _ => ?_) (fun _ => ?_)
    | refine draw_go hT hP mixed ?_
    | refine round_go hT hP ?_
  · exact (placeF_nn a s).2
  · exact (placeF_nn a s).1
  · exact (placeF_nn a s).1
  · refine .mk [] [] _ rfl rfl rfl rfl rfl rfl (imm_int ?_)
    show putF n a s v = _
    obtain ⟨n, rfl⟩ := Int.eq_ofNat_of_zero_le h1
    obtain ⟨a, rfl⟩ := Int.eq_ofNat_of_zero_le h3
    obtain ⟨s, rfl⟩ := Int.eq_ofNat_of_zero_le h4
    have e : ((a : Int) + (s : Int)).toNat = a + s := by omega
    rw [putF_nat v (by omega) (by omega), e, ← u64_mod v (by omega)]
    simp

end Go.Proofs.Ytblnigjmcjpopaa
