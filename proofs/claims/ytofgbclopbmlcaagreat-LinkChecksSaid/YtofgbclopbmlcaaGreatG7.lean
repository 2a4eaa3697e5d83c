/- Part 7 of the proof: Port TimerLaw Timer Field GetPut Timer2 TimerTicks TimerActs SerialActs SoundLaw Sound Sound2 Sound3 Sound4 Sound5 Core Name Byte EncLaw Enc Pack Pack2 Tables RefLaw PinLaw Pin Alu Alu2 Alu3 StepRef Stepped CoreAsks Tell2 Sames Clones CoreLaw CoreTells Cut TabStep TabStep0 TabStepA TabStepB. No statement is handed in here; conditions: none. -/
import Derived.Test.YtofgbclopbmlcaaGreatG6
import Derived.WalkKit
import Derived.Lib.Walk
import Derived.Lib.Bytealg
import Derived.Laws.Bits64
/- The chip with eight lines: what the program's functions and the reference's give. -/
namespace Go.Proofs.YtofgbclopbmlcaaGreat
open Go.Fw
set_option linter.unusedVariables false
set_option linter.unusedSimpArgs false
set_option maxRecDepth 100000

def portN (N : List Int) : List Int := [N.getD 0 0 % 256, N.getD 1 0 % 256, N.getD 2 0 % 256]

def pnewS : PSpec := ⟨[], fun _ => (none, devR, [.arr (.int .i64) [255, 0, 0]])⟩
theorem pnew_ok : GoodF Tryz.prog 111 pnewS.spec := by
  have hT := tab_ok (fs := []) tree_ok
  have hP : SpecsOk Tryz.prog (tab tree []) := specs_nil
  refine pnewS.good (fn := Tryz.f111) hT hP Tryz.func111 (by kernel_rfl) rfl fun _ => ?_
  repeat' first
    | (refine Go.mk ?_; conv => whnf)
    | refine Need.go ?_ ?_
    | refine NilG.go (fun _ => ?_) (fun _ => ?_)
    | refine Br.dec (fun _ => ?_) (fun _ => ?_)
    | refine Br.go (fun _ => ?_) (fun _ => ?_)
    | refine draw_go hT hP mixed ?_
    | refine round_go hT hP ?_
  exact .mk [] [1] _ rfl rfl rfl rfl rfl rfl rfl

def pfit0S : PSpec := ⟨[gD], fun (d, _) => (none, .cell (.own 0), [.arr (.int .i64) (portN d.1)])⟩
theorem pfit0_ok : GoodF Tryz.prog 227 pfit0S.spec := by
  have hT := tab_ok (fs := [(94, lowM.spec)]) tree_ok
  have hP : SpecsOk Tryz.prog (tab tree [(94, lowM.spec)]) := specs_cons lowM_ok specs_nil
  refine pfit0S.good (fn := Tryz.f227) hT hP Tryz.func227 (by kernel_rfl) rfl fun (d : Dv) _ => ?_
  obtain ⟨N, M⟩ := d
  repeat' first
    | (refine Go.mk ?_; conv => whnf)
    | refine Need.go ?_ ?_
    | refine NilG.go (fun _ => ?_) (fun _ => ?_)
    | refine Br.dec (fun _ => ?_) (fun _ => ?_)
    | refine Br.go (fun _ => ?_) (fun _ => ?_)
    | refine draw_go hT hP mixed ?_
    | refine round_go hT hP ?_
  · exact of_decide_eq_true rfl
  refine loop_unroll 4 ?_
  repeat' first
    | (refine Go.mk ?_; conv => whnf)
    | refine Need.go ?_ ?_
    | refine NilG.go (fun _ => ?_) (fun _ => ?_)
    | refine Br.dec (fun _ => ?_) (fun _ => ?_)
    | refine Br.go (fun _ => ?_) (fun _ => ?_)
    | refine draw_go hT hP mixed ?_
    | refine round_go hT hP ?_
  all_goals first
    | exact of_decide_eq_true rfl
    | exact .mk [] [1] _ rfl rfl rfl rfl rfl rfl rfl

def pwN (N : List Int) (at_ k : Int) : List Int := [N.getD 0 0 % 256, if at_ = 0 then k % 256 else N.getD 1 0 % 256, if at_ = 1 then k % 256 else N.getD 2 0 % 256]
def pwriteS : PSpec := ⟨[gD, gi, gi], fun (d, at_, k, _) => (none, devR, [.arr (.int .i64) (pwN d.1 at_ k)])⟩
theorem pwrite_ok : GoodF Tryz.prog 181 pwriteS.spec := by
  have hT := tab_ok (fs := [(227, pfit0S.spec), (94, lowM.spec)]) tree_ok
  have hP : SpecsOk Tryz.prog (tab tree [(227, pfit0S.spec), (94, lowM.spec)]) := specs_cons pfit0_ok (specs_cons lowM_ok specs_nil)
  refine pwriteS.good (fn := Tryz.f181) hT hP Tryz.func181 (by kernel_rfl) rfl fun (d : Dv) (a k : Int) _ => ?_
  obtain ⟨N, M⟩ := d
  repeat' first
    | (refine Go.mk ?_; conv => whnf)
    | refine Need.go ?_ ?_
    | refine NilG.go (fun _ => ?_) (fun _ => ?_)
    | refine Br.dec (fun _ => ?_) (fun _ => ?_)
    | refine Br.go (fun _ => ?_) (fun _ => ?_)
    | refine draw_go hT hP mixed ?_
    | refine round_go hT hP ?_
  all_goals (try subst_vars)
  all_goals first
    | exact of_decide_eq_true rfl
    | exact .mk [] [2] _ rfl rfl rfl rfl rfl rfl rfl
    | skip
  rename_i h0 h1
  refine .mk [] [2] _ rfl rfl rfl rfl rfl ?_ rfl
  show [some (Blk.arr (.int .i64) (portN N))] = [some (Blk.arr (.int .i64) (pwN N a k))]
  simp only [pwN, if_neg h0, if_neg h1]; rfl

def bothV (N : List Int) : Int := lor .i64 (land .i64 (N.getD 1 0 % 256) (N.getD 2 0 % 256)) (landNot .i64 (N.getD 0 0 % 256) (N.getD 2 0 % 256))
def preadF (N : List Int) (a : Int) : Int := pickF [bothV N, N.getD 2 0 % 256] a
def preadS : PSpec := ⟨[gD, gi], fun (d, a, _) => (none, .tup [.agg [.own 0, .imm (.slice none 0 0)], I1 (preadF d.1 a)], [.arr (.int .i64) (portN d.1)])⟩
theorem pread_ok : GoodF Tryz.prog 174 preadS.spec := by
  have hT := tab_ok (fs := [(227, pfit0S.spec)]) tree_ok
  have hP : SpecsOk Tryz.prog (tab tree [(227, pfit0S.spec)]) := specs_cons pfit0_ok specs_nil
  refine preadS.good (fn := Tryz.f174) hT hP Tryz.func174 (by kernel_rfl) rfl fun (d : Dv) (a : Int) _ => ?_
  obtain ⟨N, M⟩ := d
  repeat' first
    | (refine Go.mk ?_; conv => whnf)
    | refine Need.go ?_ ?_
    | refine NilG.go (fun _ => ?_) (fun _ => ?_)
    | refine Br.dec (fun _ => ?_) (fun _ => ?_)
    | refine Br.go (fun _ => ?_) (fun _ => ?_)
    | refine draw_go hT hP mixed ?_
    | refine round_go hT hP ?_
  all_goals (try subst_vars)
  all_goals first
    | exact of_decide_eq_true rfl
    | exact .mk [] [2] _ rfl rfl rfl rfl rfl rfl rfl
    | skip
  rename_i h0 h1
  have e : preadF N a = 0 := pick_no fun i hi => by
    have : i < 2 := hi
    omega
  refine .mk [] [2] _ rfl rfl rfl rfl rfl rfl ?_
  show AV.tup [.agg [.own 0, .imm (.slice none 0 0)], I1 0] = AV.tup [.agg [.own 0, .imm (.slice none 0 0)], I1 (preadF N a)]
  rw [e]

end Go.Proofs.YtofgbclopbmlcaaGreat

/- The timer as plain functions: a cycle, many cycles. -/
namespace Go.Proofs.YtofgbclopbmlcaaGreat
open Go.Fw
set_option linter.unusedVariables false
set_option linter.unusedSimpArgs false

def timN (N : List Int) : List Int := [N.getD 0 0 % 65536, N.getD 1 0 % 65536, N.getD 2 0 % 8, N.getD 3 0 % 2]
end Go.Proofs.YtofgbclopbmlcaaGreat

/- The chip that counts down: forming, cycles. -/
namespace Go.Proofs.YtofgbclopbmlcaaGreat
open Go.Fw
set_option linter.unusedVariables false
set_option linter.unusedSimpArgs false
set_option maxRecDepth 100000

theorem blk_eq {l l' : List Int} (h : l = l') : [some (Blk.arr (.int .i64) l)] = [some (Blk.arr (.int .i64) l')] := by rw [h]
abbrev tA (N : List Int) : Int := N.getD 0 0 % 65536
abbrev tB (N : List Int) : Int := N.getD 1 0 % 65536
abbrev tC (N : List Int) : Int := N.getD 2 0 % 8
abbrev tF (N : List Int) : Int := N.getD 3 0 % 2
theorem tR (N : List Int) : (0 ≤ tA N ∧ tA N < 65536) ∧ (0 ≤ tB N ∧ tB N < 65536) ∧ (0 ≤ tC N ∧ tC N < 8) ∧ (0 ≤ tF N ∧ tF N < 2) := by
  unfold tA tB tC tF; omega
theorem timN_eq (N : List Int) : timN N = [tA N, tB N, tC N, tF N] := rfl
def tfitS : PSpec := ⟨[gD], fun (d, _) => (none, .cell (.own 0), [.arr (.int .i64) (timN d.1)])⟩
theorem tfit_ok : GoodF Tryz.prog 202 tfitS.spec := by
  have hT := tab_ok (fs := [(94, lowM.spec)]) tree_ok
  have hP : SpecsOk Tryz.prog (tab tree [(94, lowM.spec)]) := specs_cons lowM_ok specs_nil
  refine tfitS.good (fn := Tryz.f202) hT hP Tryz.func202 (by kernel_rfl) rfl fun (d : Dv) _ => ?_
  obtain ⟨N, M⟩ := d
  repeat' first
    | (refine Go.mk ?_; conv => whnf)
    | refine Need.go ?_ ?_
    | refine NilG.go (fun _ => ?_) (fun _ => ?_)
    | refine Br.dec (fun _ => ?_) (fun _ => ?_)
    | refine Br.go (fun _ => ?_) (fun _ => ?_)
    | refine draw_go hT hP mixed ?_
    | refine round_go hT hP ?_
  all_goals first
    | exact of_decide_eq_true rfl
    | exact .mk [] [1] _ rfl rfl rfl rfl rfl rfl rfl

def tnewS : PSpec := ⟨[], fun _ => (none, devR, [.arr (.int .i64) [0, 0, 0, 0]])⟩
theorem tnew_ok : GoodF Tryz.prog 110 tnewS.spec := by
  have hT := tab_ok (fs := []) tree_ok
  have hP : SpecsOk Tryz.prog (tab tree []) := specs_nil
  refine tnewS.good (fn := Tryz.f110) hT hP Tryz.func110 (by kernel_rfl) rfl fun _ => ?_
  repeat' first
    | (refine Go.mk ?_; conv => whnf)
    | refine Need.go ?_ ?_
    | refine NilG.go (fun _ => ?_) (fun _ => ?_)
    | refine Br.dec (fun _ => ?_) (fun _ => ?_)
    | refine Br.go (fun _ => ?_) (fun _ => ?_)
    | refine draw_go hT hP mixed ?_
    | refine round_go hT hP ?_
  all_goals first
    | exact of_decide_eq_true rfl
    | exact .mk [] [1] _ rfl rfl rfl rfl rfl rfl rfl

end Go.Proofs.YtofgbclopbmlcaaGreat

/- Fields of numbers, by division: plain arithmetic. -/
namespace Go.Proofs.YtofgbclopbmlcaaGreat
open Go.Fw
set_option linter.unusedVariables false
set_option linter.unusedSimpArgs false

theorem placeF_id {f z : Nat} (h : f + z ≤ 62) : placeF (f : Int) (z : Int) = ((f : Int), (z : Int)) := by
  simp only [placeF, widthF, imax_eq, imin_eq]
  have e1 : max 0 (min (f : Int) 62) = f := by omega
  rw [e1, w64 (x := 62 - (f : Int)) (by omega) (by omega)]
  have e2 : max 0 (min (z : Int) (62 - f)) = z := by omega
  rw [e2]
theorem u64_mod (v : Int) {k : Nat} (h : k ≤ 62) : ((u64 v % 2 ^ k : Nat) : Int) = v % 2 ^ k := by
  have := lowF_mod v k (by omega) (by omega)
  rw [lowF_eq, widthF_id (by omega) (by omega)] at this
  exact this
theorem fput_bits {N V f z : Nat} (hN : N < 2 ^ 62) (hV : V < 2 ^ z) (h : f + z ≤ 62) :
    (N ^^^ (N &&& (2 ^ z - 1) * 2 ^ f)) ||| V * 2 ^ f = 2 ^ f * (2 ^ z * (N / 2 ^ (f + z)) + V) + N % 2 ^ f := by
  apply Nat.eq_of_testBit_eq
  intro i
  rw [Nat.testBit_two_pow_mul_add _ (Nat.mod_lt _ (Nat.pow_pos (by omega))), Nat.testBit_or, xor_and_testBit, Nat.testBit_mul_two_pow, Nat.testBit_mul_two_pow, Nat.testBit_two_pow_sub_one]
  by_cases h1 : i < f
  · rw [if_pos h1, Nat.testBit_mod_two_pow]
    have e : decide (f ≤ i) = false := by simp; omega
    simp [e, h1]
  · rw [if_neg h1, Nat.testBit_two_pow_mul_add _ hV]
    have e : decide (f ≤ i) = true := by simp; omega
    by_cases h2 : i - f < z
    · simp [e, h2]
    · rw [if_neg h2, Nat.testBit_div_two_pow]
      have e3 : V.testBit (i - f) = false := Nat.testBit_lt_two_pow (Nat.lt_of_lt_of_le hV (pow_le (by omega)))
      have e4 : i - f - z + (f + z) = i := by omega
      have e5 : f + z + (i - f - z) = i := by omega
      simp [e, h2, e3, e4, e5]
theorem getF_nat {n f z : Nat} (hn : n < 2 ^ 62) (h : f + z ≤ 62) : getF (n : Int) (f : Int) (z : Int) = ((n / 2 ^ f % 2 ^ z : Nat) : Int) := by
  have hl : lowF (n : Int) 62 = ((u64 (n : Int) % 2 ^ 62 : Nat) : Int) := lowF_eq n 62
  rw [u64_nat (by omega), Nat.mod_eq_of_lt hn] at hl
  unfold getF
  rw [placeF_id h, hl]
  simp only
  rw [shr_eq (by omega), lowF_eq, widthF_id (by omega) (by omega), u64_nat (Nat.lt_of_le_of_lt (Nat.div_le_self _ _) (by omega))]
  simp
theorem putF_nat {n f z : Nat} (v : Int) (hn : n < 2 ^ 62) (h : f + z ≤ 62) : putF (n : Int) (f : Int) (z : Int) v = ((2 ^ f * (2 ^ z * (n / 2 ^ (f + z)) + u64 v % 2 ^ z) + n % 2 ^ f : Nat) : Int) := by
  have hz : 2 ^ f * 2 ^ z ≤ 2 ^ 62 := by rw [← Nat.pow_add]; exact pow_le h
  have hz0 : 0 < 2 ^ z := Nat.pow_pos (by omega)
  have hf0 : 0 < 2 ^ f := Nat.pow_pos (by omega)
  have hV : u64 v % 2 ^ z < 2 ^ z := Nat.mod_lt _ hz0
  have hl : lowF (n : Int) 62 = ((u64 (n : Int) % 2 ^ 62 : Nat) : Int) := lowF_eq n 62
  rw [u64_nat (by omega), Nat.mod_eq_of_lt hn] at hl
  have hv : lowF v z = ((u64 v % 2 ^ z : Nat) : Int) := by rw [lowF_eq, widthF_id (by omega) (by omega)]; simp
  have b1 : (2 ^ z - 1) * 2 ^ f < 2 ^ 63 := by
    have : (2 ^ z - 1) * 2 ^ f ≤ 2 ^ z * 2 ^ f := Nat.mul_le_mul_right _ (by omega)
    rw [Nat.mul_comm (2 ^ z)] at this
    omega
  have b2 : u64 v % 2 ^ z * 2 ^ f < 2 ^ 63 := by
    have : u64 v % 2 ^ z * 2 ^ f ≤ 2 ^ z * 2 ^ f := Nat.mul_le_mul_right _ (by omega)
    rw [Nat.mul_comm (2 ^ z)] at this
    omega
  have key := fput_bits hn hV h
  have b3 : 2 ^ f * (2 ^ z * (n / 2 ^ (f + z)) + u64 v % 2 ^ z) + n % 2 ^ f < 2 ^ 62 := by
    rw [← key]
    refine Nat.or_lt_two_pow (Nat.xor_lt_two_pow hn (Nat.lt_of_le_of_lt Nat.and_le_left hn)) ?_
    have : u64 v % 2 ^ z * 2 ^ f < 2 ^ z * 2 ^ f := Nat.mul_lt_mul_of_pos_right hV hf0
    rw [Nat.mul_comm (2 ^ z)] at this
    omega
  rw [← key]
  unfold putF
  rw [placeF_id h]
  simp only
  rw [hl, hv, mask_eq (by omega), shl_eq b1 (by omega), shl_eq b2 (by omega)]
  have u1 : u64 (n : Int) = n := u64_nat (by omega)
  have u2 : u64 (((2 ^ z - 1) * 2 ^ f : Nat) : Int) = (2 ^ z - 1) * 2 ^ f := u64_nat (by omega)
  have u3 : u64 ((u64 v % 2 ^ z * 2 ^ f : Nat) : Int) = u64 v % 2 ^ z * 2 ^ f := u64_nat (by omega)
  rw [landNot_nat _ _ (by rw [u1]; omega), u1, u2]
  have u4 : u64 ((n ^^^ n &&& (2 ^ z - 1) * 2 ^ f : Nat) : Int) = n ^^^ (n &&& (2 ^ z - 1) * 2 ^ f) := u64_nat (by
    have : n ^^^ (n &&& (2 ^ z - 1) * 2 ^ f) < 2 ^ 62 := Nat.xor_lt_two_pow hn (Nat.lt_of_le_of_lt Nat.and_le_left hn)
    omega)
  rw [lor_nat _ _ (by rw [u3, u4, key]; omega), u3, u4]

end Go.Proofs.YtofgbclopbmlcaaGreat

/- Fields of numbers, by division. -/
namespace Go.Proofs.YtofgbclopbmlcaaGreat
open Go.Fw
set_option linter.unusedVariables false
set_option linter.unusedSimpArgs false
set_option maxRecDepth 100000

def getM : PSpec := ⟨[gi, gi, gi], fun (n, a, s, _) => (some (0 ≤ n ∧ n < 4611686018427387904 ∧ 0 ≤ a ∧ 0 ≤ s ∧ a + s ≤ 62), I (n / 2 ^ a.toNat % 2 ^ s.toNat), [])⟩
theorem getM_ok : GoodF Tryz.prog 233 getM.spec := by
  have hT := tab_ok (fs := [(260, placeS.spec), (94, lowS.spec)]) tree_ok
  have hP : SpecsOk Tryz.prog (tab tree [(260, placeS.spec), (94, lowS.spec)]) := specs_cons place_ok (specs_cons low_ok specs_nil)
  refine getM.good (fn := Tryz.f233) hT hP Tryz.func233 (by kernel_rfl) rfl fun (n a s : Int) hp => ?_
  obtain ⟨h1, h2, h3, h4, h5⟩ : 0 ≤ n ∧ n < 4611686018427387904 ∧ 0 ≤ a ∧ 0 ≤ s ∧ a + s ≤ 62 := hp _ rfl
  repeat' first
    | (refine Go.mk ?_; conv => whnf)
    | refine Need.go ?_ ?_
    | refine NilG.go (fun _ => ?_) (fun _ => ?_)
    | refine Br.dec (fun _ => ?_) (fun _ => ?_)
    | refine Br.go (fun _ => ?_) (fun _ => ?_)
    | refine draw_go hT hP mixed ?_
    | refine round_go hT hP ?_
  · exact (placeF_nn a s).1
  · refine .mk [] [] _ rfl rfl rfl rfl rfl rfl (imm_int ?_)
    show getF n a s = _
    obtain ⟨n, rfl⟩ := Int.eq_ofNat_of_zero_le h1
    obtain ⟨a, rfl⟩ := Int.eq_ofNat_of_zero_le h3
    obtain ⟨s, rfl⟩ := Int.eq_ofNat_of_zero_le h4
    rw [getF_nat (by omega) (by omega)]
    simp
def putM : PSpec := ⟨[gi, gi, gi, gi], fun (n, a, s, v, _) => (some (0 ≤ n ∧ n < 4611686018427387904 ∧ 0 ≤ a ∧ 0 ≤ s ∧ a + s ≤ 62), I (2 ^ a.toNat * (2 ^ s.toNat * (n / 2 ^ (a + s).toNat) + v % 2 ^ s.toNat) + n % 2 ^ a.toNat), [])⟩
theorem putM_ok : GoodF Tryz.prog 237 putM.spec := by
  have hT := tab_ok (fs := [(260, placeS.spec), (94, lowS.spec)]) tree_ok
  have hP : SpecsOk Tryz.prog (tab tree [(260, placeS.spec), (94, lowS.spec)]) := specs_cons place_ok (specs_cons low_ok specs_nil)
  refine putM.good (fn := Tryz.f237) hT hP Tryz.func237 (by kernel_rfl) rfl fun (n a s v : Int) hp => ?_
  obtain ⟨h1, h2, h3, h4, h5⟩ : 0 ≤ n ∧ n < 4611686018427387904 ∧ 0 ≤ a ∧ 0 ≤ s ∧ a + s ≤ 62 := hp _ rfl
  repeat' first
    | (refine Go.mk ?_; conv => whnf)
    | refine Need.go ?_ ?_
    | refine NilG.go (fun _ => ?_) (fun _ => ?_)
    | refine Br.dec (fun _ => ?_) (fun _ => ?_)
    | refine Br.go (fun _ => ?_) (fun _ => ?_)
    | refine draw_go hT hP mixed ?_
    | refine round_go hT hP ?_
  · exact (placeF_nn a s).2
  · exact (placeF_nn a s).1
  · exact (placeF_nn a s).1
  · refine .mk [] [] _ rfl rfl rfl rfl rfl rfl (imm_int ?_)
    show putF n a s v = _
    obtain ⟨n, rfl⟩ := Int.eq_ofNat_of_zero_le h1
    obtain ⟨a, rfl⟩ := Int.eq_ofNat_of_zero_le h3
    obtain ⟨s, rfl⟩ := Int.eq_ofNat_of_zero_le h4
    have e : ((a : Int) + (s : Int)).toNat = a + s := by omega
    rw [putF_nat v (by omega) (by omega), e, ← u64_mod v (by omega)]
    simp

end Go.Proofs.YtofgbclopbmlcaaGreat

/- The chip that counts down: its registers. -/
namespace Go.Proofs.YtofgbclopbmlcaaGreat
open Go.Fw
set_option linter.unusedVariables false
set_option linter.unusedSimpArgs false
set_option maxRecDepth 100000

theorem and_pow (n i : Nat) : n &&& 2 ^ i = n / 2 ^ i % 2 * 2 ^ i := by
  apply Nat.eq_of_testBit_eq
  intro j
  rw [Nat.testBit_and, Nat.testBit_two_pow]
  have hb : n.testBit i = decide (n / 2 ^ i % 2 = 1) := Nat.testBit_eq_decide_div_mod_eq
  rcases Nat.mod_two_eq_zero_or_one (n / 2 ^ i) with h | h
  · rw [h] at hb ⊢
    rw [Nat.zero_mul, Nat.zero_testBit]
    by_cases e : i = j
    · subst e; rw [hb]; simp
    · simp [e]
  · rw [h] at hb ⊢
    rw [Nat.one_mul, Nat.testBit_two_pow]
    by_cases e : i = j
    · subst e; rw [hb]; simp
    · simp [e]
theorem land_128 (k : Int) : land .i64 k 128 = k / 128 % 2 * 128 := by
  have e : u64 128 = 2 ^ 7 := by decide
  have h := and_pow (u64 k) 7
  have hb : u64 k / 2 ^ 7 % 2 ≤ 1 := by omega
  rw [land_nat _ _ (by rw [e, h]; omega), e, h]
  unfold u64
  omega

def twN (N : List Int) (a k : Int) : List Int :=
  [if a = 2 ∧ k / 128 % 2 = 1 then tB N else tA N, if a = 0 then tB N / 256 * 256 + k % 256 else if a = 1 then tB N % 256 + 256 * (k % 256) else tB N, if a = 2 then k % 8 else tC N, tF N]
def twriteS : PSpec := ⟨[gD, gi, gi], fun (d, a, k, _) => (none, devR, [.arr (.int .i64) (twN d.1 a k)])⟩
theorem twrite_ok : GoodF Tryz.prog 180 twriteS.spec := by
  have hT := tab_ok (fs := [(202, tfitS.spec), (94, lowM.spec), (237, putM.spec)]) tree_ok
  have hP : SpecsOk Tryz.prog (tab tree [(202, tfitS.spec), (94, lowM.spec), (237, putM.spec)]) := specs_cons tfit_ok (specs_cons lowM_ok (specs_cons putM_ok specs_nil))
  refine twriteS.good (fn := Tryz.f180) hT hP Tryz.func180 (by kernel_rfl) rfl fun (d : Dv) (a k : Int) _ => ?_
  obtain ⟨N, M⟩ := d
  obtain ⟨rA, rB, rC, rF⟩ := tR N
  repeat' first
    | (refine Go.mk ?_; conv => whnf)
    | refine Need.go ?_ ?_
    | refine NilG.go (fun _ => ?_) (fun _ => ?_)
    | refine Br.dec (fun _ => ?_) (fun _ => ?_)
    | refine Br.go (fun _ => ?_) (fun _ => ?_)
    | refine draw_go hT hP mixed ?_
    | refine round_go hT hP ?_
  all_goals (try subst_vars)
  all_goals first
    | exact rfl
    | exact of_decide_eq_true rfl
    | (refine ⟨?_, ?_, by decide, by decide, by decide⟩
       · exact rB.1
       · exact (by omega : tB N < 4611686018427387904))
    | skip
  · refine .mk [] [2] _ rfl rfl rfl rfl rfl (blk_eq (l := [tA N, 2 ^ (0 : Int).toNat * (2 ^ (8 : Int).toNat * (tB N / 2 ^ (0 + 8 : Int).toNat) + k % 2 ^ (8 : Int).toNat) + tB N % 2 ^ (0 : Int).toNat, tC N, tF N]) ?_) rfl
    show _ = twN N 0 k
    have e : (2 ^ (0 : Int).toNat * (2 ^ (8 : Int).toNat * (tB N / 2 ^ (0 + 8 : Int).toNat) + k % 2 ^ (8 : Int).toNat) + tB N % 2 ^ (0 : Int).toNat) = tB N / 256 * 256 + k % 256 := by
      show (1 : Int) * (256 * (tB N / 256) + k % 256) + tB N % 1 = _
      omega
    rw [e]; rfl
  · refine .mk [] [2] _ rfl rfl rfl rfl rfl (blk_eq (l := [tA N, 2 ^ (8 : Int).toNat * (2 ^ (8 : Int).toNat * (tB N / 2 ^ (8 + 8 : Int).toNat) + k % 2 ^ (8 : Int).toNat) + tB N % 2 ^ (8 : Int).toNat, tC N, tF N]) ?_) rfl
    show _ = twN N 1 k
    have e : (2 ^ (8 : Int).toNat * (2 ^ (8 : Int).toNat * (tB N / 2 ^ (8 + 8 : Int).toNat) + k % 2 ^ (8 : Int).toNat) + tB N % 2 ^ (8 : Int).toNat) = tB N % 256 + 256 * (k % 256) := by
      show (256 : Int) * (256 * (tB N / 65536) + k % 256) + tB N % 256 = _
      omega
    rw [e]; rfl
  · rename_i h _ _ _
    have h : (land .i64 k 128 != 0) = true := h
    refine .mk [] [2] _ rfl rfl rfl rfl rfl (blk_eq (l := [tB N, tB N, k % 2 ^ (3 : Int).toNat, tF N]) ?_) rfl
    show _ = twN N 2 k
    have h : k / 128 % 2 = 1 := by rw [land_128] at h; simp at h; omega
    rw [twN, if_pos ⟨rfl, h⟩]; rfl
  · rename_i h _ _ _
    have h : (land .i64 k 128 != 0) = false := h
    refine .mk [] [2] _ rfl rfl rfl rfl rfl (blk_eq (l := [tA N, tB N, k % 2 ^ (3 : Int).toNat, tF N]) ?_) rfl
    show _ = twN N 2 k
    have h : ¬ k / 128 % 2 = 1 := by rw [land_128] at h; simp at h; omega
    rw [twN, if_neg (fun e => h e.2)]; rfl
  · rename_i h0 h1 h2
    refine .mk [] [2] _ rfl rfl rfl rfl rfl (blk_eq (l := timN N) ?_) rfl
    show _ = twN N a k
    simp only [twN, timN_eq, if_neg h0, if_neg h1, if_neg h2]
    rw [if_neg (fun e => h2 e.1)]

end Go.Proofs.YtofgbclopbmlcaaGreat



/- bakelaw1.TimerActs answers true, whatever it is given. -/
namespace Go.Proofs.YtofgbclopbmlcaaGreat
open Go.Fw
set_option linter.unusedVariables false
set_option linter.unusedSimpArgs false
set_option maxRecDepth 100000

theorem tup_read {x y : Int} (h2 : x = y) : AV.tup [.agg [.own 0, .imm (.slice none 0 0)], I1 x] = AV.tup [.agg [.own 0, .imm (.slice none 0 0)], I1 y] := by rw [h2]

def trF (N : List Int) (a : Int) : Int := pickF [tA N % 256, tA N / 256, tC N, tF N] a
def trN (N : List Int) (a : Int) : List Int := [tA N, tB N, tC N, if a = 3 then 0 else tF N]
def treadS : PSpec := ⟨[gD, gi], fun (d, a, _) => (none, .tup [.agg [.own 0, .imm (.slice none 0 0)], I1 (trF d.1 a)], [.arr (.int .i64) (trN d.1 a)])⟩
theorem tread_ok : GoodF Tryz.prog 173 treadS.spec := by
  have hT := tab_ok (fs := [(202, tfitS.spec), (233, getM.spec)]) tree_ok
  have hP : SpecsOk Tryz.prog (tab tree [(202, tfitS.spec), (233, getM.spec)]) := specs_cons tfit_ok (specs_cons getM_ok specs_nil)
  refine treadS.good (fn := Tryz.f173) hT hP Tryz.func173 (by kernel_rfl) rfl fun (d : Dv) (a : Int) _ => ?_
  obtain ⟨N, M⟩ := d
  obtain ⟨rA, rB, rC, rF⟩ := tR N
  repeat' first
    | (refine Go.mk ?_; conv => whnf)
    | refine Need.go ?_ ?_
    | refine NilG.go (fun _ => ?_) (fun _ => ?_)
    | refine Br.dec (fun _ => ?_) (fun _ => ?_)
    | refine Br.go (fun _ => ?_) (fun _ => ?_)
    | refine draw_go hT hP mixed ?_
    | refine round_go hT hP ?_
  all_goals (try subst_vars)
  all_goals first
    | exact rfl
    | exact of_decide_eq_true rfl
    | (refine ⟨?_, ?_, by decide, by decide, by decide⟩
       · exact rA.1
       · exact (by omega : tA N < 4611686018427387904))
    | exact .mk [] [2] _ rfl rfl rfl rfl rfl rfl rfl
    | skip
  · refine .mk [] [2] _ rfl rfl rfl rfl rfl rfl (tup_read ?_)
    show tA N / 1 % 256 = tA N % 256
    omega
  · refine .mk [] [2] _ rfl rfl rfl rfl rfl rfl (tup_read ?_)
    show tA N / 256 % 256 = tA N / 256
    omega
  · rename_i h0 h1 h2 h3
    have e : trF N a = 0 := pick_no fun i hi => by
      have : i < 4 := hi
      omega
    refine .mk [] [2] _ rfl rfl rfl rfl rfl (blk_eq (l := timN N) ?_) (tup_read e.symm)
    show _ = trN N a
    rw [timN_eq, trN, if_neg h3]

end Go.Proofs.YtofgbclopbmlcaaGreat

/- bakelaw1.SerialActs answers true, whatever it is given. -/
namespace Go.Proofs.YtofgbclopbmlcaaGreat
open Go.Fw
set_option linter.unusedVariables false
set_option linter.unusedSimpArgs false
set_option maxRecDepth 100000

def swN (N : List Int) (a k : Int) : List Int :=
  [if a = 0 ∧ s1 N = 0 then k % 256 else s0 N, if a = 0 ∧ s1 N = 0 then 40 else s1 N, s2 N, s3 N, s4 N, if a = 2 then k % 4 else s5 N, s6 N, s7 N]
def swriteS : PSpec := ⟨[gD, gi, gi], fun (d, a, k, _) => (none, devR, [.arr (.int .i64) (swN d.1 a k)])⟩
theorem swN_0 {N : List Int} {k : Int} (h : s1 N = 0) : swN N 0 k = [k % 256, 40, s2 N, s3 N, s4 N, s5 N, s6 N, s7 N] := by
  rw [swN, if_pos ⟨rfl, h⟩, if_pos ⟨rfl, h⟩, if_neg (by omega)]
theorem swN_2 {N : List Int} {k : Int} : swN N 2 k = [s0 N, s1 N, s2 N, s3 N, s4 N, k % 4, s6 N, s7 N] := by
  rw [swN, if_neg (fun e => by omega), if_neg (fun e => by omega), if_pos rfl]
theorem swN_no {N : List Int} {a k : Int} (h : ¬ (a = 0 ∧ s1 N = 0)) (h2 : ¬ a = 2) : swN N a k = serN N := by
  rw [swN, if_neg h, if_neg h, if_neg h2]; rfl
theorem swrite_ok : GoodF Tryz.prog 182 swriteS.spec := by
  have hT := tab_ok (fs := [(203, sfitS.spec), (94, lowM.spec)]) tree_ok
  have hP : SpecsOk Tryz.prog (tab tree [(203, sfitS.spec), (94, lowM.spec)]) := specs_cons sfit_ok (specs_cons lowM_ok specs_nil)
  refine swriteS.good (fn := Tryz.f182) hT hP Tryz.func182 (by kernel_rfl) rfl fun (d : Dv) (a k : Int) _ => ?_
  obtain ⟨N, M⟩ := d
  repeat' first
    | (refine Go.mk ?_; conv => whnf)
    | refine Need.go ?_ ?_
    | refine NilG.go (fun _ => ?_) (fun _ => ?_)
    | refine Br.dec (fun _ => ?_) (fun _ => ?_)
    | refine Br.go (fun _ => ?_) (fun _ => ?_)
    | refine draw_go hT hP mixed ?_
    | refine round_go hT hP ?_
  all_goals first
    | exact rfl
    | exact of_decide_eq_true rfl
    | skip
  · rename_i g0 g1
    have g1 : s1 N = 0 := g1
    subst g0
    refine .mk [] [2] _ rfl rfl rfl rfl rfl (blk_eqs (l := [k % 2 ^ (8 : Int).toNat, 40, s2 N, s3 N, s4 N, s5 N, s6 N, s7 N]) (l' := swN N 0 k) ?_) rfl
    rw [swN_0 g1]; rfl
  · rename_i g0 g1 g2
    omega
  · rename_i g0 g1 g2
    have g1 : ¬ s1 N = 0 := g1
    refine .mk [] [2] _ rfl rfl rfl rfl rfl (blk_eqs (l := serN N) (l' := swN N a k) ?_) rfl
    rw [swN_no (fun e => g1 e.2) g2]
  · rename_i g0 g1
    subst g1
    refine .mk [] [2] _ rfl rfl rfl rfl rfl (blk_eqs (l := [s0 N, s1 N, s2 N, s3 N, s4 N, k % 2 ^ (2 : Int).toNat, s6 N, s7 N]) (l' := swN N 2 k) ?_) rfl
    rw [swN_2]; rfl
  · rename_i g0 g1
    refine .mk [] [2] _ rfl rfl rfl rfl rfl (blk_eqs (l := serN N) (l' := swN N a k) ?_) rfl
    rw [swN_no (fun e => g0 e.1) g1]

end Go.Proofs.YtofgbclopbmlcaaGreat

/- The two voices as plain functions. -/
namespace Go.Proofs.YtofgbclopbmlcaaGreat
open Go.Fw
set_option linter.unusedVariables false
set_option linter.unusedSimpArgs false

/-- the numbers of a voice, from a place on -/
def vo (N : List Int) (i : Nat) : List Int := [N.getD i 0 % 4096, N.getD (i + 1) 0 % 16, N.getD (i + 2) 0 % 256, N.getD (i + 3) 0 % 4096, N.getD (i + 4) 0 % 2, N.getD (i + 5) 0 % 16384]
def sndN (N : List Int) : List Int := vo N 0 ++ vo N 6
inductive vOk : List Int → Prop
  | mk {p v r c f w : Int} (hp : 0 ≤ p ∧ p < 4096) (hv : 0 ≤ v ∧ v < 16) (hr : 0 ≤ r ∧ r < 256) (hc : 0 ≤ c ∧ c < 4096) (hf : 0 ≤ f ∧ f < 2) (hw : 0 ≤ w ∧ w < 16384) : vOk [p, v, r, c, f, w]
theorem vOk.len {l : List Int} (h : vOk l) : l.length = 6 := by cases h; rfl
end Go.Proofs.YtofgbclopbmlcaaGreat

/- The chip with two voices: its state, the passing of cycles. -/
namespace Go.Proofs.YtofgbclopbmlcaaGreat
open Go.Fw
set_option linter.unusedVariables false
set_option linter.unusedSimpArgs false
set_option maxRecDepth 100000

def ofitS : PSpec := ⟨[gD], fun (d, _) => (none, .cell (.own 0), [.arr (.int .i64) (sndN d.1)])⟩
set_option maxHeartbeats 4000000 in
theorem ofit_ok : GoodF Tryz.prog 225 ofitS.spec := by
  have hT := tab_ok (fs := [(94, lowM.spec)]) tree_ok
  have hP : SpecsOk Tryz.prog (tab tree [(94, lowM.spec)]) := specs_cons lowM_ok specs_nil
  refine ofitS.good (fn := Tryz.f225) hT hP Tryz.func225 (by kernel_rfl) rfl fun (d : Dv) _ => ?_
  obtain ⟨N, M⟩ := d
  repeat' first
    | (refine Go.mk ?_; conv => whnf)
    | refine Need.go ?_ ?_
    | refine NilG.go (fun _ => ?_) (fun _ => ?_)
    | refine Br.dec (fun _ => ?_) (fun _ => ?_)
    | refine Br.go (fun _ => ?_) (fun _ => ?_)
    | refine loop_unroll 7 ?_
    | refine round_go hT hP ?_
  all_goals first
    | exact of_decide_eq_true rfl
    | exact .mk [] [1] _ rfl rfl rfl rfl rfl rfl rfl

def onewS : PSpec := ⟨[], fun _ => (none, devR, [.arr (.int .i64) (List.replicate 12 0)])⟩
theorem onew_ok : GoodF Tryz.prog 114 onewS.spec := by
  have hT := tab_ok (fs := []) tree_ok
  have hP : SpecsOk Tryz.prog (tab tree []) := specs_nil
  refine onewS.good (fn := Tryz.f114) hT hP Tryz.func114 (by kernel_rfl) rfl fun _ => ?_
  repeat' first
    | (refine Go.mk ?_; conv => whnf)
    | refine Need.go ?_ ?_
    | refine NilG.go (fun _ => ?_) (fun _ => ?_)
    | refine Br.dec (fun _ => ?_) (fun _ => ?_)
    | refine Br.go (fun _ => ?_) (fun _ => ?_)
    | refine draw_go hT hP mixed ?_
    | refine round_go hT hP ?_
  all_goals first
    | exact of_decide_eq_true rfl
    | exact .mk [] [1] _ rfl rfl rfl rfl rfl rfl rfl

end Go.Proofs.YtofgbclopbmlcaaGreat



/- The chip with two voices: registers. -/
namespace Go.Proofs.YtofgbclopbmlcaaGreat
open Go.Fw
set_option linter.unusedVariables false
set_option linter.unusedSimpArgs false
set_option maxRecDepth 100000

theorem oR (N : List Int) : (0 ≤ N.getD 0 0 % 4096 ∧ N.getD 0 0 % 4096 < 4096) ∧ (0 ≤ N.getD 1 0 % 16 ∧ N.getD 1 0 % 16 < 16) ∧ (0 ≤ N.getD 4 0 % 2 ∧ N.getD 4 0 % 2 < 2) ∧ (0 ≤ N.getD 6 0 % 4096 ∧ N.getD 6 0 % 4096 < 4096) ∧ (0 ≤ N.getD 7 0 % 16 ∧ N.getD 7 0 % 16 < 16) ∧ (0 ≤ N.getD 10 0 % 2 ∧ N.getD 10 0 % 2 < 2) := by omega
def ooutF (N : List Int) : Int := N.getD 1 0 % 16 * (N.getD 4 0 % 2) + N.getD 7 0 % 16 * (N.getD 10 0 % 2)
def voiceLoS : WSpec := ⟨List Int × Int, fun x => [.c (.own 0), I1 x.2], fun x => [.arr (.int .i64) x.1], fun a b => (match a, b with | [.c (.own 0), .c (.imm (.int .i64 k))], [.arr (.int .i64) n] => some (n, k) | _, _ => none),
  fun x => (some ((0 ≤ x.2 ∧ x.2 < 4) ∧ List.length x.1 = 12), .cell (.sub 0 0 6), [some (.arr (.int .i64) x.1)], [])⟩
theorem voiceLo_ok : GoodF Tryz.prog 235 voiceLoS.spec := by
  have hT := tab_ok (fs := []) tree_ok
  have hP : SpecsOk Tryz.prog (tab tree []) := specs_nil
  refine voiceLoS.good (fn := Tryz.f235) hT hP Tryz.func235 (by kernel_rfl) rfl ?_ fun ((l, a) : List Int × Int) hq => ?_
  · intro a b x h
    simp only [voiceLoS] at h
    split at h
    · injection h with h; subst h; exact ⟨rfl, rfl⟩
    · cases h
  obtain ⟨hp, hl⟩ : (0 ≤ a ∧ a < 4) ∧ l.length = 12 := hq _ rfl
  have ha : a = 0 ∨ a = 1 ∨ a = 2 ∨ a = 3 := by omega
  rcases ha with rfl | rfl | rfl | rfl
  all_goals
    repeat' first
      | (refine Go.mk ?_; conv => whnf)
      | refine Need.go ?_ ?_
      | refine NilG.go (fun _ => ?_) (fun _ => ?_)
      | refine Br.dec (fun _ => ?_) (fun _ => ?_)
      | refine Br.go (fun _ => ?_) (fun _ => ?_)
      | refine draw_go hT hP mixed ?_
      | refine round_go hT hP ?_
    all_goals first
      | exact of_decide_eq_true rfl
      | (exfalso; rename_i h; revert h; decide)
      | (show (0 : Int) ≤ 0 ∧ (0 : Int) ≤ 6 ∧ (6 : Int) ≤ (l.length : Nat)
         rw [hl]; decide)
      | exact .mk [] [0] _ rfl rfl rfl rfl rfl rfl rfl
      | skip
def voiceHiS : WSpec := ⟨List Int × Int, fun x => [.c (.own 0), I1 x.2], fun x => [.arr (.int .i64) x.1], fun a b => (match a, b with | [.c (.own 0), .c (.imm (.int .i64 k))], [.arr (.int .i64) n] => some (n, k) | _, _ => none),
  fun x => (some ((4 ≤ x.2 ∧ x.2 < 8) ∧ List.length x.1 = 12), .cell (.sub 0 6 6), [some (.arr (.int .i64) x.1)], [])⟩
theorem voiceHi_ok : GoodF Tryz.prog 235 voiceHiS.spec := by
  have hT := tab_ok (fs := []) tree_ok
  have hP : SpecsOk Tryz.prog (tab tree []) := specs_nil
  refine voiceHiS.good (fn := Tryz.f235) hT hP Tryz.func235 (by kernel_rfl) rfl ?_ fun ((l, a) : List Int × Int) hq => ?_
  · intro a b x h
    simp only [voiceHiS] at h
    split at h
    · injection h with h; subst h; exact ⟨rfl, rfl⟩
    · cases h
  obtain ⟨hp, hl⟩ : (4 ≤ a ∧ a < 8) ∧ l.length = 12 := hq _ rfl
  have ha : a = 4 ∨ a = 5 ∨ a = 6 ∨ a = 7 := by omega
  rcases ha with rfl | rfl | rfl | rfl
  all_goals
    repeat' first
      | (refine Go.mk ?_; conv => whnf)
      | refine Need.go ?_ ?_
      | refine NilG.go (fun _ => ?_) (fun _ => ?_)
      | refine Br.dec (fun _ => ?_) (fun _ => ?_)
      | refine Br.go (fun _ => ?_) (fun _ => ?_)
      | refine draw_go hT hP mixed ?_
      | refine round_go hT hP ?_
    all_goals first
      | exact of_decide_eq_true rfl
      | (exfalso; rename_i h; revert h; decide)
      | (show (0 : Int) ≤ 6 ∧ (6 : Int) ≤ 12 ∧ (12 : Int) ≤ (l.length : Nat)
         rw [hl]; decide)
      | exact .mk [] [0] _ rfl rfl rfl rfl rfl rfl rfl
      | skip
def voiceNoS : WSpec := ⟨List Int × Int, fun x => [.c (.own 0), I1 x.2], fun x => [.arr (.int .i64) x.1], fun a b => (match a, b with | [.c (.own 0), .c (.imm (.int .i64 k))], [.arr (.int .i64) n] => some (n, k) | _, _ => none),
  fun x => (some (x.2 < 0 ∨ x.2 ≥ 8), .cell (.imm (.slice none 0 0)), [some (.arr (.int .i64) x.1)], [])⟩
theorem voiceNo_ok : GoodF Tryz.prog 235 voiceNoS.spec := by
  have hT := tab_ok (fs := []) tree_ok
  have hP : SpecsOk Tryz.prog (tab tree []) := specs_nil
  refine voiceNoS.good (fn := Tryz.f235) hT hP Tryz.func235 (by kernel_rfl) rfl ?_ fun ((l, a) : List Int × Int) hq => ?_
  · intro a b x h
    simp only [voiceNoS] at h
    split at h
    · injection h with h; subst h; exact ⟨rfl, rfl⟩
    · cases h
  have hp : a < 0 ∨ a ≥ 8 := hq _ rfl
  repeat' first
    | (refine Go.mk ?_; conv => whnf)
    | refine Need.go ?_ ?_
    | refine NilG.go (fun _ => ?_) (fun _ => ?_)
    | refine Br.dec (fun _ => ?_) (fun _ => ?_)
    | refine Br.go (fun _ => ?_) (fun _ => ?_)
    | refine draw_go hT hP mixed ?_
    | refine round_go hT hP ?_
  all_goals first
    | exact .mk [] [0] _ rfl rfl rfl rfl rfl rfl rfl
    | (exfalso; dsimp only at *; omega)
    | skip

def orF (N : List Int) (a : Int) : Int := pickF [N.getD 0 0 % 4096 % 256, N.getD 0 0 % 4096 / 256, N.getD 1 0 % 16, N.getD 2 0 % 256, N.getD 6 0 % 4096 % 256, N.getD 6 0 % 4096 / 256, N.getD 7 0 % 16, N.getD 8 0 % 256] a
theorem get_lo {n : Int} : n / 2 ^ (0 : Int).toNat % 2 ^ (8 : Int).toNat = n % 256 := by
  show n / 1 % 256 = n % 256
  rw [Int.ediv_one]
theorem get_hi {n : Int} (h : 0 ≤ n ∧ n < 4096) : n / 2 ^ (8 : Int).toNat % 2 ^ (4 : Int).toNat = n / 256 := by
  show n / 256 % 16 = n / 256
  omega
def oreadLoS : PSpec := ⟨[gD, gi], fun (d, a, _) => (some (0 ≤ a ∧ a < 4), .tup [.agg [.own 0, .imm (.slice none 0 0)], I1 (orF d.1 a)], [.arr (.int .i64) (sndN d.1)])⟩
theorem oreadLo_ok : GoodF Tryz.prog 177 oreadLoS.spec := by
  have hT := tab_ok (fs := [(225, ofitS.spec), (235, voiceLoS.spec), (233, getM.spec)]) tree_ok
  have hP : SpecsOk Tryz.prog (tab tree [(225, ofitS.spec), (235, voiceLoS.spec), (233, getM.spec)]) := specs_cons ofit_ok (specs_cons voiceLo_ok (specs_cons getM_ok specs_nil))
  refine oreadLoS.good (fn := Tryz.f177) hT hP Tryz.func177 (by kernel_rfl) rfl fun (d : Dv) (a : Int) hq => ?_
  have hp : 0 ≤ a ∧ a < 4 := hq _ rfl
  obtain ⟨N, M⟩ := d
  obtain ⟨h0, h1, h2, h3, h4, h5⟩ := oR N
  have ha : a = 0 ∨ a = 1 ∨ a = 2 ∨ a = 3 := by omega
  rcases ha with rfl | rfl | rfl | rfl
  all_goals
    repeat' first
      | (refine Go.mk ?_; conv => whnf)
      | refine Need.go ?_ ?_
      | refine NilG.go (fun _ => ?_) (fun _ => ?_)
      | refine Br.dec (fun _ => ?_) (fun _ => ?_)
      | refine Br.go (fun _ => ?_) (fun _ => ?_)
      | refine draw_go hT hP mixed ?_
      | refine round_go hT hP ?_
    all_goals first
      | exact of_decide_eq_true rfl
      | exact ⟨of_decide_eq_true rfl, rfl⟩
      | (exfalso; rename_i h; exact absurd (show (6 : Nat) = 0 from h) (by decide))
      | (show 0 ≤ N.getD 0 0 % 4096 ∧ N.getD 0 0 % 4096 < 4611686018427387904 ∧ _
         exact ⟨by omega, by omega, by decide, by decide, by decide⟩)
      | (refine .mk [] [2] _ rfl rfl rfl rfl rfl rfl (tup_reads ?_)
         first | exact get_lo | exact get_hi h0 | exact rfl)
      | skip
def oreadHiS : PSpec := ⟨[gD, gi], fun (d, a, _) => (some (4 ≤ a ∧ a < 8), .tup [.agg [.own 0, .imm (.slice none 0 0)], I1 (orF d.1 a)], [.arr (.int .i64) (sndN d.1)])⟩
theorem oreadHi_ok : GoodF Tryz.prog 177 oreadHiS.spec := by
  have hT := tab_ok (fs := [(225, ofitS.spec), (235, voiceHiS.spec), (233, getM.spec)]) tree_ok
  have hP : SpecsOk Tryz.prog (tab tree [(225, ofitS.spec), (235, voiceHiS.spec), (233, getM.spec)]) := specs_cons ofit_ok (specs_cons voiceHi_ok (specs_cons getM_ok specs_nil))
  refine oreadHiS.good (fn := Tryz.f177) hT hP Tryz.func177 (by kernel_rfl) rfl fun (d : Dv) (a : Int) hq => ?_
  have hp : 4 ≤ a ∧ a < 8 := hq _ rfl
  obtain ⟨N, M⟩ := d
  obtain ⟨h0, h1, h2, h3, h4, h5⟩ := oR N
  have ha : a = 4 ∨ a = 5 ∨ a = 6 ∨ a = 7 := by omega
  rcases ha with rfl | rfl | rfl | rfl
  all_goals
    repeat' first
      | (refine Go.mk ?_; conv => whnf)
      | refine Need.go ?_ ?_
      | refine NilG.go (fun _ => ?_) (fun _ => ?_)
      | refine Br.dec (fun _ => ?_) (fun _ => ?_)
      | refine Br.go (fun _ => ?_) (fun _ => ?_)
      | refine draw_go hT hP mixed ?_
      | refine round_go hT hP ?_
    all_goals first
      | exact of_decide_eq_true rfl
      | exact ⟨of_decide_eq_true rfl, rfl⟩
      | (exfalso; rename_i h; exact absurd (show (6 : Nat) = 0 from h) (by decide))
      | (show 0 ≤ N.getD 6 0 % 4096 ∧ N.getD 6 0 % 4096 < 4611686018427387904 ∧ _
         exact ⟨by omega, by omega, by decide, by decide, by decide⟩)
      | (refine .mk [] [2] _ rfl rfl rfl rfl rfl rfl (tup_reads ?_)
         first | exact get_lo | exact get_hi h3 | exact rfl)
      | skip
def oreadNoS : PSpec := ⟨[gD, gi], fun (d, a, _) => (some (a < 0 ∨ a ≥ 8), .tup [.agg [.own 0, .imm (.slice none 0 0)], I1 (orF d.1 a)], [.arr (.int .i64) (sndN d.1)])⟩
theorem oreadNo_ok : GoodF Tryz.prog 177 oreadNoS.spec := by
  have hT := tab_ok (fs := [(225, ofitS.spec), (235, voiceNoS.spec), (233, getM.spec)]) tree_ok
  have hP : SpecsOk Tryz.prog (tab tree [(225, ofitS.spec), (235, voiceNoS.spec), (233, getM.spec)]) := specs_cons ofit_ok (specs_cons voiceNo_ok (specs_cons getM_ok specs_nil))
  refine oreadNoS.good (fn := Tryz.f177) hT hP Tryz.func177 (by kernel_rfl) rfl fun (d : Dv) (a : Int) hq => ?_
  have hp : a < 0 ∨ a ≥ 8 := hq _ rfl
  obtain ⟨N, M⟩ := d
  obtain ⟨h0, h1, h2, h3, h4, h5⟩ := oR N
  repeat' first
    | (refine Go.mk ?_; conv => whnf)
    | refine Need.go ?_ ?_
    | refine NilG.go (fun _ => ?_) (fun _ => ?_)
    | refine Br.dec (fun _ => ?_) (fun _ => ?_)
    | refine Br.go (fun _ => ?_) (fun _ => ?_)
    | refine draw_go hT hP mixed ?_
    | refine round_go hT hP ?_
  all_goals first
    | exact hp
    | contradiction
    | (refine .mk [] [2] _ rfl rfl rfl rfl rfl rfl (tup_reads ?_)
       exact (pick_no fun i hi => by
         have : i < 8 := hi
         omega).symm)
    | skip
theorem out8 (a : Int) (h : ¬ (0 ≤ a ∧ a < 8)) : a < 0 ∨ a ≥ 8 := by omega
def oreadS : PSpec := ⟨[gD, gi], fun (d, a, _) => (none, .tup [.agg [.own 0, .imm (.slice none 0 0)], I1 (orF d.1 a)], [.arr (.int .i64) (sndN d.1)])⟩
def oread8S : PSpec := ⟨[gD, gi], fun (d, a, _) => (some (0 ≤ a ∧ a < 8), .tup [.agg [.own 0, .imm (.slice none 0 0)], I1 (orF d.1 a)], [.arr (.int .i64) (sndN d.1)])⟩
theorem oread8_ok : GoodF Tryz.prog 177 oread8S.spec := GoodF.cases oreadLo_ok oreadHi_ok fun (d, a, _) hq => by
  have hp : 0 ≤ a ∧ a < 8 := hq _ rfl
  rcases Int.lt_or_le a 4 with h | h
  · exact .inl ⟨fun q hq => by cases hq; exact ⟨hp.1, h⟩, rfl⟩
  · exact .inr ⟨fun q hq => by cases hq; exact ⟨h, hp.2⟩, rfl⟩
theorem oread_ok : GoodF Tryz.prog 177 oreadS.spec := GoodF.cases oread8_ok oreadNo_ok fun (d, a, _) _ => by
  by_cases h : 0 ≤ a ∧ a < 8
  · exact .inl ⟨fun q hq => by cases hq; exact h, rfl⟩
  · exact .inr ⟨fun q hq => by cases hq; exact out8 a h, rfl⟩

def owF (N : List Int) (a k : Int) : List Int :=
  if a = 0 then (sndN N).set 0 (N.getD 0 0 % 4096 / 256 * 256 + k % 256) else if a = 1 then (sndN N).set 0 (N.getD 0 0 % 4096 % 256 + k % 16 * 256) else if a = 2 then ((sndN N).set 1 (k % 16)).set 5 0 else if a = 3 then (sndN N).set 2 (k % 256)
  else if a = 4 then (sndN N).set 6 (N.getD 6 0 % 4096 / 256 * 256 + k % 256) else if a = 5 then (sndN N).set 6 (N.getD 6 0 % 4096 % 256 + k % 16 * 256) else if a = 6 then ((sndN N).set 7 (k % 16)).set 11 0 else if a = 7 then (sndN N).set 8 (k % 256) else sndN N
theorem put_lo {n k : Int} (h : 0 ≤ n ∧ n < 4096) : 2 ^ (0 : Int).toNat * (2 ^ (8 : Int).toNat * (n / 2 ^ ((0 : Int) + 8).toNat) + k % 2 ^ (8 : Int).toNat) + n % 2 ^ (0 : Int).toNat = n / 256 * 256 + k % 256 := by
  show 1 * (256 * (n / 256) + k % 256) + n % 1 = _
  omega
theorem put_hi {n k : Int} (h : 0 ≤ n ∧ n < 4096) : 2 ^ (8 : Int).toNat * (2 ^ (4 : Int).toNat * (n / 2 ^ ((8 : Int) + 4).toNat) + k % 2 ^ (4 : Int).toNat) + n % 2 ^ (8 : Int).toNat = n % 256 + k % 16 * 256 := by
  show 256 * (16 * (n / 4096) + k % 16) + n % 256 = _
  omega
theorem set_eq {l : List Int} {i : Nat} {x y : Int} (h : x = y) : l.set i x = l.set i y := by rw [h]
def owriteLoS : PSpec := ⟨[gD, gi, gi], fun (d, a, k, _) => (some (0 ≤ a ∧ a < 4), devR, [.arr (.int .i64) (owF d.1 a k)])⟩
theorem owriteLo_ok : GoodF Tryz.prog 184 owriteLoS.spec := by
  have hT := tab_ok (fs := [(225, ofitS.spec), (235, voiceLoS.spec), (237, putM.spec), (94, lowM.spec)]) tree_ok
  have hP : SpecsOk Tryz.prog (tab tree [(225, ofitS.spec), (235, voiceLoS.spec), (237, putM.spec), (94, lowM.spec)]) := specs_cons ofit_ok (specs_cons voiceLo_ok (specs_cons putM_ok (specs_cons lowM_ok specs_nil)))
  refine owriteLoS.good (fn := Tryz.f184) hT hP Tryz.func184 (by kernel_rfl) rfl fun (d : Dv) (a k : Int) hq => ?_
  have hp : 0 ≤ a ∧ a < 4 := hq _ rfl
  obtain ⟨N, M⟩ := d
  obtain ⟨h0, h1, h2, h3, h4, h5⟩ := oR N
  have ha : a = 0 ∨ a = 1 ∨ a = 2 ∨ a = 3 := by omega
  rcases ha with rfl | rfl | rfl | rfl
  all_goals
    repeat' first
      | (refine Go.mk ?_; conv => whnf)
      | refine Need.go ?_ ?_
      | refine NilG.go (fun _ => ?_) (fun _ => ?_)
      | refine Br.dec (fun _ => ?_) (fun _ => ?_)
      | refine Br.go (fun _ => ?_) (fun _ => ?_)
      | refine draw_go hT hP mixed ?_
      | refine round_go hT hP ?_
    all_goals first
      | exact of_decide_eq_true rfl
      | exact ⟨of_decide_eq_true rfl, rfl⟩
      | (exfalso; rename_i h; exact absurd (show (6 : Nat) = 0 from h) (by decide))
      | (show 0 ≤ N.getD 0 0 % 4096 ∧ N.getD 0 0 % 4096 < 4611686018427387904 ∧ _
         exact ⟨by omega, by omega, by decide, by decide, by decide⟩)
      | exact .mk [] [2] _ rfl rfl rfl rfl rfl rfl rfl
      | (refine .mk [] [2] _ rfl rfl rfl rfl rfl (blk_eqs ?_) rfl
         first | exact set_eq (put_lo h0) | exact set_eq (put_hi h0))
      | skip
def owriteHiS : PSpec := ⟨[gD, gi, gi], fun (d, a, k, _) => (some (4 ≤ a ∧ a < 8), devR, [.arr (.int .i64) (owF d.1 a k)])⟩
theorem owriteHi_ok : GoodF Tryz.prog 184 owriteHiS.spec := by
  have hT := tab_ok (fs := [(225, ofitS.spec), (235, voiceHiS.spec), (237, putM.spec), (94, lowM.spec)]) tree_ok
  have hP : SpecsOk Tryz.prog (tab tree [(225, ofitS.spec), (235, voiceHiS.spec), (237, putM.spec), (94, lowM.spec)]) := specs_cons ofit_ok (specs_cons voiceHi_ok (specs_cons putM_ok (specs_cons lowM_ok specs_nil)))
  refine owriteHiS.good (fn := Tryz.f184) hT hP Tryz.func184 (by kernel_rfl) rfl fun (d : Dv) (a k : Int) hq => ?_
  have hp : 4 ≤ a ∧ a < 8 := hq _ rfl
  obtain ⟨N, M⟩ := d
  obtain ⟨h0, h1, h2, h3, h4, h5⟩ := oR N
  have ha : a = 4 ∨ a = 5 ∨ a = 6 ∨ a = 7 := by omega
  rcases ha with rfl | rfl | rfl | rfl
  all_goals
    repeat' first
      | (refine Go.mk ?_; conv => whnf)
      | refine Need.go ?_ ?_
      | refine NilG.go (fun _ => ?_) (fun _ => ?_)
      | refine Br.dec (fun _ => ?_) (fun _ => ?_)
      | refine Br.go (fun _ => ?_) (fun _ => ?_)
      | refine draw_go hT hP mixed ?_
      | refine round_go hT hP ?_
    all_goals first
      | exact of_decide_eq_true rfl
      | exact ⟨of_decide_eq_true rfl, rfl⟩
      | (exfalso; rename_i h; exact absurd (show (6 : Nat) = 0 from h) (by decide))
      | (show 0 ≤ N.getD 6 0 % 4096 ∧ N.getD 6 0 % 4096 < 4611686018427387904 ∧ _
         exact ⟨by omega, by omega, by decide, by decide, by decide⟩)
      | exact .mk [] [2] _ rfl rfl rfl rfl rfl rfl rfl
      | (refine .mk [] [2] _ rfl rfl rfl rfl rfl (blk_eqs ?_) rfl
         first | exact set_eq (put_lo h3) | exact set_eq (put_hi h3))
      | skip
def owriteNoS : PSpec := ⟨[gD, gi, gi], fun (d, a, k, _) => (some (a < 0 ∨ a ≥ 8), devR, [.arr (.int .i64) (owF d.1 a k)])⟩
theorem owriteNo_ok : GoodF Tryz.prog 184 owriteNoS.spec := by
  have hT := tab_ok (fs := [(225, ofitS.spec), (235, voiceNoS.spec), (237, putM.spec), (94, lowM.spec)]) tree_ok
  have hP : SpecsOk Tryz.prog (tab tree [(225, ofitS.spec), (235, voiceNoS.spec), (237, putM.spec), (94, lowM.spec)]) := specs_cons ofit_ok (specs_cons voiceNo_ok (specs_cons putM_ok (specs_cons lowM_ok specs_nil)))
  refine owriteNoS.good (fn := Tryz.f184) hT hP Tryz.func184 (by kernel_rfl) rfl fun (d : Dv) (a k : Int) hq => ?_
  have hp : a < 0 ∨ a ≥ 8 := hq _ rfl
  obtain ⟨N, M⟩ := d
  obtain ⟨h0, h1, h2, h3, h4, h5⟩ := oR N
  repeat' first
    | (refine Go.mk ?_; conv => whnf)
    | refine Need.go ?_ ?_
    | refine NilG.go (fun _ => ?_) (fun _ => ?_)
    | refine Br.dec (fun _ => ?_) (fun _ => ?_)
    | refine Br.go (fun _ => ?_) (fun _ => ?_)
    | refine draw_go hT hP mixed ?_
    | refine round_go hT hP ?_
  all_goals first
    | exact hp
    | contradiction
    | (refine .mk [] [2] _ rfl rfl rfl rfl rfl (blk_eqs (l := sndN N) ?_) rfl
       show _ = owF N a k
       unfold owF
       rw [if_neg (by omega), if_neg (by omega), if_neg (by omega), if_neg (by omega), if_neg (by omega), if_neg (by omega), if_neg (by omega), if_neg (by omega)])
    | skip
def owriteS : PSpec := ⟨[gD, gi, gi], fun (d, a, k, _) => (none, devR, [.arr (.int .i64) (owF d.1 a k)])⟩
def owrite8S : PSpec := ⟨[gD, gi, gi], fun (d, a, k, _) => (some (0 ≤ a ∧ a < 8), devR, [.arr (.int .i64) (owF d.1 a k)])⟩
theorem owrite8_ok : GoodF Tryz.prog 184 owrite8S.spec := GoodF.cases owriteLo_ok owriteHi_ok fun (d, a, k, _) hq => by
  have hp : 0 ≤ a ∧ a < 8 := hq _ rfl
  rcases Int.lt_or_le a 4 with h | h
  · exact .inl ⟨fun q hq => by cases hq; exact ⟨hp.1, h⟩, rfl⟩
  · exact .inr ⟨fun q hq => by cases hq; exact ⟨h, hp.2⟩, rfl⟩
theorem owrite_ok : GoodF Tryz.prog 184 owriteS.spec := GoodF.cases owrite8_ok owriteNo_ok fun (d, a, k, _) _ => by
  by_cases h : 0 ≤ a ∧ a < 8
  · exact .inl ⟨fun q hq => by cases hq; exact h, rfl⟩
  · exact .inr ⟨fun q hq => by cases hq; exact out8 a h, rfl⟩

end Go.Proofs.YtofgbclopbmlcaaGreat

/- The chip with two voices, by the document. -/
namespace Go.Proofs.YtofgbclopbmlcaaGreat
open Go.Fw
set_option linter.unusedVariables false
set_option linter.unusedSimpArgs false
set_option maxRecDepth 100000

theorem tm {n m : Int} (h : 0 ≤ n) : Int.tmod n m = n % m := Int.tmod_eq_emod_of_nonneg h
end Go.Proofs.YtofgbclopbmlcaaGreat



/- The processor: what it asks of the bus. -/
namespace Go.Proofs.YtofgbclopbmlcaaGreat
open Go.Fw
set_option linter.unusedVariables false
set_option linter.unusedSimpArgs false
set_option maxRecDepth 100000

abbrev StepT : Ty := .pair (.int .i64) (.pair (.int .i64) (.pair (.int .i64) (.int .i64)))
abbrev CycT : Ty := .pair (.int .i64) (.pair (.int .i64) (.pair (.int .i64) (.sl StepT)))
abbrev InsT : Ty := .pair (.int .i64) (.pair .str (.pair (.int .i64) (.sl CycT)))
abbrev CpuT : Ty := .pair .str (.pair (.sl InsT) (.pair (.sl CycT) (.pair (.sl CycT) (.sl CycT))))
abbrev CoreT : Ty := .pair (.ints .i64 9) (.pair (.int .i64) (.pair (.int .i64) .bool))
abbrev gCpu : Sig := ⟨true, CpuT⟩
abbrev Stp := Int × Int × Int × Int
abbrev Cyc := Int × Int × Int × List Stp
abbrev Ins := Int × ByteArray × Int × List Cyc
abbrev Cpu := ByteArray × List Ins × List Cyc × List Cyc × List Cyc
abbrev Kor := List Int × Int × Int × Bool

theorem w64e (x : Int) : IntKind.i64.wrap x = (x + 9223372036854775808) % 18446744073709551616 - 9223372036854775808 := by
  rw [IntKind.wrap_i64]
theorem up_i {k : Nat} (h : k ≤ 4611686018427387904) : IntKind.i64.wrap ((k : Int) + 1) = ((k + 1 : Nat) : Int) := by
  rw [w64 (by omega) (by omega)]; omega
def wideB (r : Int) : Bool := decide (r = 7 ∨ r = 8)
def narrowB (r : Int) : Bool := decide (0 ≤ r ∧ r ≤ 6)
def wideS : PSpec := ⟨[gi], fun (r, _) => (none, .cell (bv (wideB r)), [])⟩
def narrowS : PSpec := ⟨[gi], fun (r, _) => (none, .cell (bv (narrowB r)), [])⟩
theorem tWide_ok : GoodF Tryz.prog 250 wideS.spec := by
  have hT := tab_ok (fs := []) tree_ok
  have hP : SpecsOk Tryz.prog (tab tree []) := specs_nil
  refine wideS.good (fn := Tryz.f250) hT hP Tryz.func250 (by kernel_rfl) rfl fun (r : Int) _ => ?_
  repeat' first
    | (refine Go.mk ?_; conv => whnf)
    | refine Need.go ?_ ?_
    | refine NilG.go (fun _ => ?_) (fun _ => ?_)
    | refine Br.dec (fun _ => ?_) (fun _ => ?_)
    | refine Br.go (fun _ => ?_) (fun _ => ?_)
    | refine draw_go hT hP mixed ?_
    | refine round_go hT hP ?_
  all_goals
    refine .mk [] [] _ rfl rfl rfl rfl rfl rfl (imm_bool ?_)
    show _ = wideB r
    simp_all [wideB] <;> first | rfl | omega
theorem rWide_ok : GoodF Tryz.prog 140 wideS.spec := by
  have hT := tab_ok (fs := []) tree_ok
  have hP : SpecsOk Tryz.prog (tab tree []) := specs_nil
  refine wideS.good (fn := Tryz.f140) hT hP Tryz.func140 (by kernel_rfl) rfl fun (r : Int) _ => ?_
  repeat' first
    | (refine Go.mk ?_; conv => whnf)
    | refine Need.go ?_ ?_
    | refine NilG.go (fun _ => ?_) (fun _ => ?_)
    | refine Br.dec (fun _ => ?_) (fun _ => ?_)
    | refine Br.go (fun _ => ?_) (fun _ => ?_)
    | refine draw_go hT hP mixed ?_
    | refine round_go hT hP ?_
  all_goals
    refine .mk [] [] _ rfl rfl rfl rfl rfl rfl (imm_bool ?_)
    show _ = wideB r
    simp_all [wideB] <;> first | rfl | omega
theorem rNarrow_ok : GoodF Tryz.prog 139 narrowS.spec := by
  have hT := tab_ok (fs := []) tree_ok
  have hP : SpecsOk Tryz.prog (tab tree []) := specs_nil
  refine narrowS.good (fn := Tryz.f139) hT hP Tryz.func139 (by kernel_rfl) rfl fun (r : Int) _ => ?_
  repeat' first
    | (refine Go.mk ?_; conv => whnf)
    | refine Need.go ?_ ?_
    | refine NilG.go (fun _ => ?_) (fun _ => ?_)
    | refine Br.dec (fun _ => ?_) (fun _ => ?_)
    | refine Br.go (fun _ => ?_) (fun _ => ?_)
    | refine draw_go hT hP mixed ?_
    | refine round_go hT hP ?_
  all_goals
    refine .mk [] [] _ rfl rfl rfl rfl rfl rfl (imm_bool ?_)
    show _ = narrowB r
    simp_all [narrowB] <;> first | rfl | omega

-- places

-- the cycles of an instruction

-- the next cycle

-- what begins between two instructions

end Go.Proofs.YtofgbclopbmlcaaGreat

/- Names: what counts as one. -/
namespace Go.Proofs.YtofgbclopbmlcaaGreat
open Go.Fw
set_option linter.unusedVariables false
set_option linter.unusedSimpArgs false
set_option linter.constructorNameAsVariable false
set_option maxRecDepth 100000

abbrev gStr : Sig := ⟨false, .str⟩
def letB (c : Int) : Bool := decide ((97 ≤ c ∧ c ≤ 122) ∨ (48 ≤ c ∧ c ≤ 57) ∨ c = 45)
def nameB (l : List Int) : Bool := decide (l.length ≠ 0 ∧ l.length ≤ 20 ∧ 97 ≤ l.getD 0 0 ∧ l.getD 0 0 ≤ 122) && l.all letB
theorem bytes_len (s : ByteArray) : (bytesOf s).length = s.size := by
  unfold bytesOf
  rw [List.length_map, Array.length_toList]; rfl
theorem byte_at (s : ByteArray) (i : Nat) : byteAt s i = (bytesOf s).getD i 0 := by
  unfold byteAt bytesOf
  rw [List.getD_eq_getElem?_getD, List.getD_eq_getElem?_getD, List.getElem?_map]
  cases s.data.toList[i]? <;> rfl
theorem bytes_in (s : ByteArray) : ∀ c ∈ bytesOf s, 0 ≤ c ∧ c < 256 := by
  intro c hc
  unfold bytesOf at hc
  obtain ⟨b, _, rfl⟩ := List.mem_map.1 hc
  have := b.toNat_lt
  omega
theorem strEq_nil {s : ByteArray} : strEq s ⟨#[]⟩ = decide ((bytesOf s).length = 0) := by
  unfold strEq bytesOf
  rw [ByteArray.toList_eq, ByteArray.toList_eq, List.length_map]
  cases s.data.toList with
  | nil => rfl
  | cons a r => rfl
theorem name_no {l : List Int} (h : l.length = 0 ∨ l.length > 20 ∨ l.getD 0 0 < 97 ∨ l.getD 0 0 > 122 ∨ l.all letB = false) : nameB l = false := by
  unfold nameB
  by_cases h2 : l.all letB = false
  · rw [h2, Bool.and_false]
  · rw [decide_eq_false (by rcases h with h | h | h | h | h <;> first | omega | exact absurd h h2), Bool.false_and]
theorem all_take {l : List Int} {k : Nat} (h : k < l.length) (h1 : (l.take k).all letB = true) (h2 : letB (l.getD k 0) = true) : (l.take (k + 1)).all letB = true := by
  rw [List.getD_eq_getElem?_getD, List.getElem?_eq_getElem h] at h2
  rw [List.take_add_one, List.all_append, h1, List.getElem?_eq_getElem h]
  simpa using h2
theorem all_no {l : List Int} {k : Nat} (h : k < l.length) (h2 : letB (l.getD k 0) = false) : l.all letB = false := by
  rw [List.getD_eq_getElem?_getD, List.getElem?_eq_getElem h] at h2
  rw [← Bool.not_eq_true]
  intro e
  have := List.all_eq_true.1 e _ (List.getElem_mem h)
  have h2 : letB l[k] = false := h2
  rw [h2] at this
  cases this
def nameS : PSpec := ⟨[gStr], fun (s, _) => (none, .cell (bv (nameB (bytesOf s))), [])⟩
theorem tName_ok : GoodF Tryz.prog 100 nameS.spec := by
  have hT := tab_ok (fs := []) tree_ok
  have hP : SpecsOk Tryz.prog (tab tree []) := specs_nil
  refine nameS.good (fn := Tryz.f100) hT hP Tryz.func100 (by kernel_rfl) rfl fun (s : ByteArray) _ => ?_
  repeat' first
    | (refine Go.mk ?_; conv => whnf)
    | refine Need.go ?_ ?_
    | refine NilG.go (fun _ => ?_) (fun _ => ?_)
    | refine Br.dec (fun _ => ?_) (fun _ => ?_)
    | refine Br.go (fun _ => ?_) (fun _ => ?_)
    | refine draw_go hT hP mixed ?_
    | refine round_go hT hP ?_
  all_goals first
    | exact of_decide_eq_true rfl
    | skip
  all_goals (have hL := bytes_len s)
  all_goals (simp only [strEq_nil, byte_at] at *)
  all_goals (have h0 : Int.toNat 0 = 0 := rfl)
  all_goals (try simp only [h0] at *)
  all_goals first
    | (rename_i h
       have h := of_decide_eq_true h
       exact .mk [] [] _ rfl rfl rfl rfl rfl rfl (imm_bool (name_no (.inl h)).symm))
    | (have h : (s.size : Int) > 20 := by assumption
       refine .mk [] [] _ rfl rfl rfl rfl rfl rfl (imm_bool (name_no (.inr (.inl ?_))).symm)
       rw [hL]
       omega)
    | (have h1 : decide ((bytesOf s).length = 0) = false := by assumption
       have h1 := of_decide_eq_false h1
       show 0 ≤ (0 : Int) ∧ (0 : Int) < (s.size : Int)
       omega)
    | (rename_i h
       exact .mk [] [] _ rfl rfl rfl rfl rfl rfl (imm_bool (name_no (.inr (.inr (.inl h)))).symm))
    | (rename_i h
       exact .mk [] [] _ rfl rfl rfl rfl rfl rfl (imm_bool (name_no (.inr (.inr (.inr (.inl h))))).symm))
    | skip
  have g1 : decide ((bytesOf s).length = 0) = false := by assumption
  have g1 := of_decide_eq_false g1
  have g2 : ¬ (s.size : Int) > 20 := by assumption
  have g3 : ¬ (bytesOf s).getD 0 0 < 97 := by assumption
  have g4 : ¬ (bytesOf s).getD 0 0 > 122 := by assumption
  have hF : nameB (bytesOf s) = (bytesOf s).all letB := by
    unfold nameB
    rw [decide_eq_true ⟨g1, by omega, by omega, by omega⟩, Bool.true_and]
  refine up_go hT hP (A := Unit) (bytesOf s).length (fun i _ => St.mk [.dead, .dead, .dead, .dead, .dead, .dead, .dead, .dead, .dead, .dead, .dead, .dead, .dead, .dead, .dead, .dead, .dead, .dead, .dead, .dead, .dead, .dead, .dead, .cell (.ro (.int .u8) (bytesOf s)), I ((bytesOf s).length : Int), I i, .dead, .dead, .dead, .dead, .dead, .dead, .dead, .dead, .dead, .dead, .dead, .dead, .dead, .dead, .dead, .dead, .dead, .dead, .dead, .dead, .dead, .dead, .dead] [])
    (fun k _ => ((bytesOf s).take k).all letB = true) () (Le.mk [] [] rfl rfl rfl ?_) (by simp) fun k _ hk hi => ?_
  · repeat' first | exact trivial | exact ⟨rfl, rfl⟩ | refine And.intro ?_ ?_
  repeat' first
    | (refine Go.mk ?_; conv => whnf)
    | refine Need.go ?_ ?_
    | refine NilG.go (fun _ => ?_) (fun _ => ?_)
    | refine Br.dec (fun _ => ?_) (fun _ => ?_)
    | refine Br.go (fun _ => ?_) (fun _ => ?_)
    | refine draw_go hT hP mixed ?_
    | refine round_go hT hP ?_
  all_goals
    have ec : List.getD (α := Den (.int .u8)) (bytesOf s) ((k : Int)).toNat (dflt (.int .u8)) = (bytesOf s).getD k 0 := rfl
    try simp only [ec] at *
    clear ec
  all_goals clear hT hP
  all_goals
    generalize hc : (bytesOf s).getD k 0 = c at *
  all_goals (try simp only [cond_false, Bool.not_eq_true', Bool.not_eq_false', beq_iff_eq, beq_eq_false_iff_ne] at *)
  have hlen : (bytesOf s).length ≤ 20 := by omega
  all_goals first
    | exact of_decide_eq_true rfl
    | (show 0 ≤ (k : Int) ∧ (k : Int) < ((bytesOf s).length : Int)
       omega)
    | (have hb : letB c = false := decide_eq_false (by omega)
       refine .mk [] [] _ rfl rfl rfl rfl rfl rfl (imm_bool ?_)
       rw [hF, all_no (k := k) (by omega) (by rw [hc]; exact hb)])
    | (have hb : letB c = true := decide_eq_true (by omega)
       apply Exists.intro
       apply Exists.intro ()
       refine And.intro (And.intro ?lt (And.intro ?ei ?inv)) (Le.mk [] [] rfl rfl ?hh ?ht)
       case hh => exact rfl
       case ht => repeat' first | exact trivial | exact ⟨rfl, rfl⟩ | refine And.intro ?_ ?_
       case lt => omega
       case ei => exact up_i (by omega)
       case inv => exact all_take (by omega) hi (by rw [hc]; exact hb))
    | (refine .mk [] [] _ rfl rfl rfl rfl rfl rfl (imm_bool ?_)
       rw [hF]
       rw [List.take_of_length_le (by omega)] at hi
       exact hi.symm)
    | skip
  all_goals trace_state

end Go.Proofs.YtofgbclopbmlcaaGreat

/- Where a byte is in a text; what counts as a name, for the reference. -/
namespace Go.Proofs.YtofgbclopbmlcaaGreat
open Go.Fw
set_option linter.unusedVariables false
set_option linter.unusedSimpArgs false
set_option linter.constructorNameAsVariable false
set_option maxRecDepth 100000

abbrev gu8 : Sig := ⟨false, .int .u8⟩
set_option maxHeartbeats 1000000 in
theorem idxb_run (s : ByteArray) (c : Int) (w : World) :
    Calls Tryz.prog 118 #[.string s, .int .u8 c] w fun e w' => e = .returned (.int .i64 (Lib.indexByte s.data.toList c.toNat.toUInt8)) ∧ w' = w := by
  have mixed : Tryz.prog.follows .mixedOrders = true := mixed
  go_enter Tryz.func118, Tryz.ntmps118
  go_wp2
  rw [run_callFunc_extern Tryz.func200 (by kernel_rfl) (by kernel_rfl) (by kernel_rfl) (e := Extern.BytealgIndexByte.indexByte) (by kernel_rfl), Lib.run_indexByteString]
  simp only [Result.andThen]
  rw [Oper.upon_value]
  go_wp2
  go_ret
  exact ⟨rfl, rfl⟩
def idxbS : PSpec := ⟨[gStr, gu8], fun (s, c, _) => (none, I (Lib.indexByte s.data.toList (Int.toNat c).toUInt8), [])⟩
theorem idxb_ok : GoodF Tryz.prog 118 idxbS.spec := by
  refine PSpec.of_calls Tryz.func118 (by kernel_rfl) rfl idxbS (fun _ => rfl) fun E (s, c, _) vs hv _ => ?_
  obtain ⟨v1, r1, e1, ⟨h1, _⟩, v2, r2, e2, ⟨h2, _⟩, h3⟩ := hv
  injection h1 with h1
  injection h2 with h2
  have h3 : r2 = [] := h3
  have e : vs = #[.string s, .int .u8 c] := by
    apply Array.ext'
    rw [e1, e2, h3, h1, h2]
  subst e
  refine (idxb_run s c E.w).mono ?_
  rintro e w' ⟨rfl, rfl⟩
  exact ⟨⟨_, rfl, rfl, rfl⟩, rfl⟩
theorem sIndexByte_ok : GoodF Tryz.prog 64 idxbS.spec := by
  have hT := tab_ok (fs := [(118, idxbS.spec)]) tree_ok
  have hP : SpecsOk Tryz.prog (tab tree [(118, idxbS.spec)]) := specs_cons idxb_ok specs_nil
  refine idxbS.good (fn := Tryz.f64) hT hP Tryz.func64 (by kernel_rfl) rfl fun (s : ByteArray) (c : Int) _ => ?_
  repeat' first
    | (refine Go.mk ?_; conv => whnf)
    | refine Need.go ?_ ?_
    | refine NilG.go (fun _ => ?_) (fun _ => ?_)
    | refine Br.dec (fun _ => ?_) (fun _ => ?_)
    | refine Br.go (fun _ => ?_) (fun _ => ?_)
    | refine draw_go hT hP mixed ?_
    | refine round_go hT hP ?_
  exact .mk [] [] _ rfl rfl rfl rfl rfl rfl rfl


def lets : List UInt8 := [97, 98, 99, 100, 101, 102, 103, 104, 105, 106, 107, 108, 109, 110, 111, 112, 113, 114, 115, 116, 117, 118, 119, 120, 121, 122]
def lets2 : List UInt8 := lets ++ [48, 49, 50, 51, 52, 53, 54, 55, 56, 57, 45]
theorem lets_all : (List.range 256).all (fun n => decide (Lib.indexByte lets n.toUInt8 < 0) == !decide (97 ≤ n ∧ n ≤ 122)) = true := by decide +kernel
theorem lets2_all : (List.range 256).all (fun n => decide (Lib.indexByte lets2 n.toUInt8 < 0) == !letB (n : Int)) = true := by decide +kernel
theorem lets_in {c : Int} (h : 0 ≤ c ∧ c < 256) : decide (Lib.indexByte lets c.toNat.toUInt8 < 0) = !decide (97 ≤ c ∧ c ≤ 122) := by
  have := List.all_eq_true.1 lets_all c.toNat (List.mem_range.2 (by omega))
  rw [beq_iff_eq] at this
  rw [this]
  congr 1
  by_cases h2 : 97 ≤ c ∧ c ≤ 122
  · rw [decide_eq_true h2, decide_eq_true (by omega)]
  · rw [decide_eq_false h2, decide_eq_false (by omega)]
theorem lets2_in {c : Int} (h : 0 ≤ c ∧ c < 256) : decide (Lib.indexByte lets2 c.toNat.toUInt8 < 0) = !letB c := by
  have := List.all_eq_true.1 lets2_all c.toNat (List.mem_range.2 (by omega))
  rw [beq_iff_eq] at this
  rw [this]
  have : ((c.toNat : Nat) : Int) = c := by omega
  rw [this]
theorem rNamed_ok : GoodF Tryz.prog 61 nameS.spec := by
  have hT := tab_ok (fs := [(64, idxbS.spec)]) tree_ok
  have hP : SpecsOk Tryz.prog (tab tree [(64, idxbS.spec)]) := specs_cons sIndexByte_ok specs_nil
  refine nameS.good (fn := Tryz.f61) hT hP Tryz.func61 (by kernel_rfl) rfl fun (s : ByteArray) _ => ?_
  have hL := bytes_len s
  repeat' first
    | (refine Go.mk ?_; conv => whnf)
    | refine Need.go ?_ ?_
    | refine NilG.go (fun _ => ?_) (fun _ => ?_)
    | refine Br.dec (fun _ => ?_) (fun _ => ?_)
    | refine Br.go (fun _ => ?_) (fun _ => ?_)
    | refine draw_go hT hP mixed ?_
    | refine round_go hT hP ?_
  · rename_i h
    have h : (s.size : Int) < 1 := h
    exact .mk [] [] _ rfl rfl rfl rfl rfl rfl (imm_bool (name_no (.inl (by omega))).symm)
  · rename_i h
    have h : (s.size : Int) > 20 := h
    exact .mk [] [] _ rfl rfl rfl rfl rfl rfl (imm_bool (name_no (.inr (.inl (by omega)))).symm)
  · rename_i h _
    have h : ¬ (s.size : Int) < 1 := h
    show 0 ≤ (0 : Int) ∧ (0 : Int) < (s.size : Int)
    omega
  · rename_i h1 h2 h3
    have h1 : ¬ (s.size : Int) < 1 := h1
    have hc := bytes_in s ((bytesOf s).getD 0 0) (by rw [List.getD_eq_getElem?_getD, List.getElem?_eq_getElem (by omega)]; exact List.getElem_mem _)
    have h3 : Lib.indexByte lets (byteAt s 0).toNat.toUInt8 < 0 := h3
    rw [byte_at] at h3
    have e := lets_in hc
    rw [decide_eq_true h3] at e
    have e : decide (97 ≤ (bytesOf s).getD 0 0 ∧ (bytesOf s).getD 0 0 ≤ 122) = false := by
      cases hd : decide (97 ≤ (bytesOf s).getD 0 0 ∧ (bytesOf s).getD 0 0 ≤ 122) with
      | true => rw [hd] at e; cases e
      | false => rfl
    have e := of_decide_eq_false e
    exact .mk [] [] _ rfl rfl rfl rfl rfl rfl (imm_bool (name_no (by omega)).symm)
  rename_i h1 h2 h3
  have h1 : ¬ (s.size : Int) < 1 := h1
  have h2 : ¬ (s.size : Int) > 20 := h2
  have hc0 := bytes_in s ((bytesOf s).getD 0 0) (by rw [List.getD_eq_getElem?_getD, List.getElem?_eq_getElem (by omega)]; exact List.getElem_mem _)
  have h3 : ¬ Lib.indexByte lets (byteAt s 0).toNat.toUInt8 < 0 := h3
  rw [byte_at] at h3
  have e := lets_in hc0
  rw [decide_eq_false h3] at e
  have e : decide (97 ≤ (bytesOf s).getD 0 0 ∧ (bytesOf s).getD 0 0 ≤ 122) = true := by
    cases hd : decide (97 ≤ (bytesOf s).getD 0 0 ∧ (bytesOf s).getD 0 0 ≤ 122) with
    | true => rfl
    | false => rw [hd] at e; cases e
  have e := of_decide_eq_true e
  have hF : nameB (bytesOf s) = (bytesOf s).all letB := by
    unfold nameB
    rw [decide_eq_true ⟨by omega, by omega, by omega, by omega⟩, Bool.true_and]
  refine up_go hT hP (A := Unit) (bytesOf s).length (fun i _ => St.mk [.imm (.string s), .dead, .dead, .dead, .dead, .dead, .dead, .dead, .dead, .dead, .dead, .dead, .dead, .dead, .dead, .dead, .dead, .dead, .dead, I (s.size : Int), I i, .dead, .dead, .dead, .dead, .dead, .dead, .dead, .dead] [])
    (fun k _ => ((bytesOf s).take k).all letB = true) () (Le.mk [] [] rfl rfl rfl ?_) (by simp) fun k _ hk hi => ?_
  · repeat' first | exact trivial | exact ⟨rfl, rfl⟩ | refine And.intro ?_ ?_
  repeat' first
    | (refine Go.mk ?_; conv => whnf)
    | refine Need.go ?_ ?_
    | refine NilG.go (fun _ => ?_) (fun _ => ?_)
    | refine Br.dec (fun _ => ?_) (fun _ => ?_)
    | refine Br.go (fun _ => ?_) (fun _ => ?_)
    | refine draw_go hT hP mixed ?_
    | refine round_go hT hP ?_
  · rename_i g1
    have g1 : (k : Int) < (s.size : Int) := g1
    show 0 ≤ (k : Int) ∧ (k : Int) < (s.size : Int)
    omega
  · rename_i g1 g2
    have g1 : (k : Int) < (s.size : Int) := g1
    have hk2 : k < (bytesOf s).length := by omega
    have hc := bytes_in s ((bytesOf s).getD k 0) (by rw [List.getD_eq_getElem?_getD, List.getElem?_eq_getElem hk2]; exact List.getElem_mem _)
    have g2 : Lib.indexByte lets2 (byteAt s k).toNat.toUInt8 < 0 := g2
    rw [byte_at] at g2
    have e := lets2_in hc
    rw [decide_eq_true g2] at e
    have e : letB ((bytesOf s).getD k 0) = false := by
      cases hd : letB ((bytesOf s).getD k 0) with
      | true => rw [hd] at e; cases e
      | false => rfl
    refine .mk [] [] _ rfl rfl rfl rfl rfl rfl (imm_bool ?_)
    rw [hF, all_no hk2 e]
  · rename_i g1 g2
    have g1 : (k : Int) < (s.size : Int) := g1
    have hk2 : k < (bytesOf s).length := by omega
    have hc := bytes_in s ((bytesOf s).getD k 0) (by rw [List.getD_eq_getElem?_getD, List.getElem?_eq_getElem hk2]; exact List.getElem_mem _)
    have g2 : ¬ Lib.indexByte lets2 (byteAt s k).toNat.toUInt8 < 0 := g2
    rw [byte_at] at g2
    have e := lets2_in hc
    rw [decide_eq_false g2] at e
    have e : letB ((bytesOf s).getD k 0) = true := by
      cases hd : letB ((bytesOf s).getD k 0) with
      | true => rfl
      | false => rw [hd] at e; cases e
    apply Exists.intro
    apply Exists.intro ()
    refine And.intro (And.intro ?lt166 (And.intro ?ei166 ?inv166)) (Le.mk [] [] rfl rfl ?hh166 ?ht166)
    case hh166 => exact rfl
    case ht166 => repeat' first | exact trivial | exact ⟨rfl, rfl⟩ | refine And.intro ?_ ?_
    case lt166 => omega
    case ei166 => exact up_i (by omega)
    exact all_take hk2 hi e
  · rename_i g1
    have g1 : ¬ (k : Int) < (s.size : Int) := g1
    refine .mk [] [] _ rfl rfl rfl rfl rfl rfl (imm_bool ?_)
    rw [hF]
    rw [List.take_of_length_le (by omega)] at hi
    exact hi.symm

end Go.Proofs.YtofgbclopbmlcaaGreat

/- Numbers as bytes, seven bits each: plain functions. -/
namespace Go.Proofs.YtofgbclopbmlcaaGreat
open Go.Fw
set_option linter.unusedVariables false
set_option linter.unusedSimpArgs false

def i64P (n : Int) : Prop := -9223372036854775808 ≤ n ∧ n ≤ 9223372036854775807
-- operators of uint64 and of bytes
end Go.Proofs.YtofgbclopbmlcaaGreat

/- Numbers as bytes: the two walks. -/
namespace Go.Proofs.YtofgbclopbmlcaaGreat
open Go.Fw
set_option linter.unusedVariables false
set_option linter.unusedSimpArgs false
set_option linter.constructorNameAsVariable false
set_option maxRecDepth 100000

structure PutX where
  nil : Bool
  l : List Int
  n : Int
end Go.Proofs.YtofgbclopbmlcaaGreat

/- A machine's state as bytes: the reference's helper. -/
namespace Go.Proofs.YtofgbclopbmlcaaGreat
open Go.Fw
set_option linter.unusedVariables false
set_option linter.unusedSimpArgs false
set_option linter.constructorNameAsVariable false
set_option maxRecDepth 100000

inductive AddX where
  | N0 (l : List Int)
  | O1 (l o : List Int)
  | R1 (l o : List Int)
def AddX.l : AddX → List Int
  | .N0 l => l
  | .O1 l _ => l
  | .R1 l _ => l
def AddX.out : AddX → List Int
  | .N0 _ => []
  | .O1 _ o => o
  | .R1 _ o => o
end Go.Proofs.YtofgbclopbmlcaaGreat

/- A machine's state as bytes: the reference. -/
namespace Go.Proofs.YtofgbclopbmlcaaGreat
open Go.Fw
set_option linter.unusedVariables false
set_option linter.unusedSimpArgs false
set_option linter.constructorNameAsVariable false
set_option maxRecDepth 100000

abbrev DevT : Ty := .pair (.sl (.int .i64)) (.sl (.int .u8))
abbrev MachT : Ty := .pair (.int .i64) (.pair CoreT (.pair (.sl DevT) (.pair (.int .i64) (.pair (.int .i64) (.int .i64)))))
abbrev gM : Sig := ⟨true, MachT⟩
abbrev Mach := Int × Kor × List Dv × Int × Int × Int
end Go.Proofs.YtofgbclopbmlcaaGreat

/- Tables of instructions: how long an operand is; a table without instructions. -/
namespace Go.Proofs.YtofgbclopbmlcaaGreat
open Go.Fw
set_option linter.unusedVariables false
set_option linter.unusedSimpArgs false
set_option linter.constructorNameAsVariable false
set_option maxRecDepth 100000

def sizeI (m : Int) : Int := if m = 0 then 0 else if m = 4 ∨ m = 5 ∨ m = 6 then 2 else if m = 1 ∨ m = 2 ∨ m = 3 ∨ m = 7 ∨ m = 8 then 1 else -1
def tsizeS : PSpec := ⟨[gi], fun (m, _) => (none, I (sizeI m), [])⟩
theorem tSize_ok : GoodF Tryz.prog 186 tsizeS.spec := by
  have hT := tab_ok (fs := []) tree_ok
  have hP : SpecsOk Tryz.prog (tab tree []) := specs_nil
  refine tsizeS.good (fn := Tryz.f186) hT hP Tryz.func186 (by kernel_rfl) rfl fun (m : Int) _ => ?_
  repeat' first
    | (refine Go.mk ?_; conv => whnf)
    | refine Need.go ?_ ?_
    | refine NilG.go (fun _ => ?_) (fun _ => ?_)
    | refine Br.dec (fun _ => ?_) (fun _ => ?_)
    | refine Br.go (fun _ => ?_) (fun _ => ?_)
    | refine draw_go hT hP mixed ?_
    | refine round_go hT hP ?_
  all_goals (refine .mk [] [] _ rfl rfl rfl rfl rfl rfl (imm_int ?_))
  all_goals clear hT hP
  all_goals (show _ = sizeI m; unfold sizeI; dsimp only [gi, Den] at *)
  all_goals ((repeat' split) <;> first | rfl | omega)
theorem rOperand_ok : GoodF Tryz.prog 116 tsizeS.spec := by
  have hT := tab_ok (fs := []) tree_ok
  have hP : SpecsOk Tryz.prog (tab tree []) := specs_nil
  refine tsizeS.good (fn := Tryz.f116) hT hP Tryz.func116 (by kernel_rfl) rfl fun (m : Int) _ => ?_
  repeat' first
    | (refine Go.mk ?_; conv => whnf)
    | refine Need.go ?_ ?_
    | refine NilG.go (fun _ => ?_) (fun _ => ?_)
    | refine Br.dec (fun _ => ?_) (fun _ => ?_)
    | refine Br.go (fun _ => ?_) (fun _ => ?_)
    | refine draw_go hT hP mixed ?_
    | refine round_go hT hP ?_
  all_goals first
    | exact of_decide_eq_true rfl
    | (dsimp only [gi, Den] at *; simp only [List.length_cons, List.length_nil] at *; omega)
    | skip
  all_goals (refine .mk [] [] _ rfl rfl rfl rfl rfl rfl (imm_int ?_))
  all_goals clear hT hP
  all_goals (dsimp only [gi, Den] at *)
  all_goals (try simp only [List.length_cons, List.length_nil] at *)
  all_goals first
    | (show _ = sizeI m; unfold sizeI; (repeat' split) <;> first | rfl | omega)
    | skip
  · have hm : m = 0 ∨ m = 1 ∨ m = 2 ∨ m = 3 ∨ m = 4 ∨ m = 5 ∨ m = 6 ∨ m = 7 ∨ m = 8 := by omega
    rcases hm with rfl | rfl | rfl | rfl | rfl | rfl | rfl | rfl | rfl <;> rfl
def cycles0S : PSpec := ⟨[⟨false, .sl CycT⟩], fun (l, _) => (some (l = []), I 0, [])⟩
theorem cycles0_ok : GoodF Tryz.prog 189 cycles0S.spec := by
  have hT := tab_ok (fs := []) tree_ok
  have hP : SpecsOk Tryz.prog (tab tree []) := specs_nil
  refine cycles0S.good (fn := Tryz.f189) hT hP Tryz.func189 (by kernel_rfl) rfl fun (l : List Cyc) hq => ?_
  obtain rfl : l = [] := hq _ rfl
  clear hq
  repeat' first
    | (refine Go.mk ?_; conv => whnf)
    | refine Need.go ?_ ?_
    | refine NilG.go (fun _ => ?_) (fun _ => ?_)
    | refine Br.dec (fun _ => ?_) (fun _ => ?_)
    | refine Br.go (fun _ => ?_) (fun _ => ?_)
    | refine draw_go hT hP mixed ?_
    | refine round_go hT hP ?_
  refine loop_unroll 1 ?_
  repeat' first
    | (refine Go.mk ?_; conv => whnf)
    | refine Need.go ?_ ?_
    | refine NilG.go (fun _ => ?_) (fun _ => ?_)
    | refine Br.dec (fun _ => ?_) (fun _ => ?_)
    | refine Br.go (fun _ => ?_) (fun _ => ?_)
    | refine draw_go hT hP mixed ?_
    | refine round_go hT hP ?_
  all_goals exact .mk [] [] _ rfl rfl rfl rfl rfl rfl rfl
def check0S : PSpec := ⟨[gCpu], fun (c, _) => (some (c.2 = ([], [], [], [])), I (if nameB (bytesOf c.1) = true then 0 else 15), [])⟩
theorem check0_ok : GoodF Tryz.prog 101 check0S.spec := by
  have hT := tab_ok (fs := [(100, nameS.spec), (189, cycles0S.spec)]) tree_ok
  have hP : SpecsOk Tryz.prog (tab tree [(100, nameS.spec), (189, cycles0S.spec)]) := specs_cons tName_ok (specs_cons cycles0_ok specs_nil)
  refine check0S.good (fn := Tryz.f101) hT hP Tryz.func101 (by kernel_rfl) rfl fun (c : Cpu) hq => ?_
  obtain ⟨cn, c2⟩ := c
  obtain rfl : c2 = ([], [], [], []) := hq _ rfl
  clear hq
  repeat' first
    | (refine Go.mk ?_; conv => whnf)
    | refine Need.go ?_ ?_
    | refine NilG.go (fun _ => ?_) (fun _ => ?_)
    | refine Br.dec (fun _ => ?_) (fun _ => ?_)
    | refine Br.go (fun _ => ?_) (fun _ => ?_)
    | refine draw_go hT hP mixed ?_
    | refine round_go hT hP ?_
  all_goals first
    | exact of_decide_eq_true rfl
    | skip
  · rename_i h
    have hn : nameB (bytesOf cn) = false := by
      have h : (!nameB (bytesOf cn)) = true := h
      simpa using h
    refine .mk [] [] _ rfl rfl rfl rfl rfl rfl (imm_int ?_)
    show 15 = if nameB (bytesOf cn) = true then 0 else 15
    rw [hn]; rfl
  rename_i h
  have hn : nameB (bytesOf cn) = true := by
    have h : (!nameB (bytesOf cn)) = false := h
    simpa using h
  refine loop_unroll 1 ?_
  repeat' first
    | (refine Go.mk ?_; conv => whnf)
    | refine Need.go ?_ ?_
    | refine NilG.go (fun _ => ?_) (fun _ => ?_)
    | refine Br.dec (fun _ => ?_) (fun _ => ?_)
    | refine Br.go (fun _ => ?_) (fun _ => ?_)
    | refine draw_go hT hP mixed ?_
    | refine round_go hT hP ?_
  refine loop_unroll 4 ?_
  repeat' first
    | (refine Go.mk ?_; conv => whnf)
    | refine Need.go ?_ ?_
    | refine NilG.go (fun _ => ?_) (fun _ => ?_)
    | refine Br.dec (fun _ => ?_) (fun _ => ?_)
    | refine Br.go (fun _ => ?_) (fun _ => ?_)
    | refine draw_go hT hP mixed ?_
    | refine round_go hT hP ?_
  all_goals first
    | exact of_decide_eq_true rfl
    | exact rfl
    | skip
  all_goals (refine .mk [] [] _ rfl rfl rfl rfl rfl rfl (imm_int ?_))
  all_goals (show 0 = if nameB (bytesOf cn) = true then 0 else 15; rw [hn]; rfl)

end Go.Proofs.YtofgbclopbmlcaaGreat





/- The functions of package pin, and bakeref1's lines. -/
namespace Go.Proofs.YtofgbclopbmlcaaGreat
open Go.Fw
set_option linter.unusedVariables false
set_option linter.unusedSimpArgs false
set_option maxRecDepth 100000

def idxF (p : Int → Bool) : List Int → Int → Int
  | [], _ => -1
  | a :: l, i => if p a = true then i else idxF p l (i + 1)
theorem idxF_any (p : Int → Bool) : ∀ (l : List Int) (i : Int), 0 ≤ i → decide (idxF p l i ≥ 0) = l.any p
  | [], i, h => by simp [idxF]
  | a :: l, i, h => by
    unfold idxF
    rw [List.any_cons]
    cases hp : p a with
    | true => simpa using h
    | false => simpa using idxF_any p l (i + 1) (by omega)
theorem idxF_step (p : Int → Bool) {l : List Int} {k : Nat} (h : k < l.length) : idxF p (l.drop k) k = if p (l.getD k 0) = true then (k : Int) else idxF p (l.drop (k + 1)) ((k : Int) + 1) := by
  rw [List.drop_eq_getElem_cons h, idxF]
  simp [h]

def indexS : PSpec := ⟨[gl, gi], fun (l, v, _) => (some (List.length l ≤ 4611686018427387904), I (idxF (fun a => decide (v = a)) l 0), [])⟩
theorem index_ok : GoodF Tryz.prog 195 indexS.spec := by
  have hT := tab_ok (fs := []) tree_ok
  have hP : SpecsOk Tryz.prog (tab tree []) := specs_nil
  refine indexS.good (fn := Tryz.f195) hT hP Tryz.func195 (by kernel_rfl) rfl fun (l : List Int) (v : Int) hp => ?_
  have hp : l.length ≤ 4611686018427387904 := hp _ rfl
  repeat' first
    | (refine Go.mk ?_; conv => whnf)
    | refine Need.go ?_ ?_
    | refine NilG.go (fun _ => ?_) (fun _ => ?_)
    | refine Br.dec (fun _ => ?_) (fun _ => ?_)
    | refine Br.go (fun _ => ?_) (fun _ => ?_)
    | refine draw_go hT hP mixed ?_
    | refine round_go hT hP ?_
  refine loop_go hT hP (X := Int) (fun i => St.mk [.cell (.ro (.int .i64) l), I v, .dead, .dead, .dead, .dead, .dead, I l.length, I i, .dead, .dead, .dead, .dead, .dead, .dead, .dead, .dead, .dead, .dead] [])
    (fun i => ∃ k : Nat, i = k ∧ k ≤ l.length ∧ idxF (fun a => decide (v = a)) l 0 = idxF (fun a => decide (v = a)) (l.drop k) k) (fun i => (l.length - i).toNat) 0 (Le.mk [] [] rfl rfl rfl ?_) ?_ fun i hi => ?_
  rotate_right
  repeat' first
    | (refine Go.mk ?_; conv => whnf)
    | refine Need.go ?_ ?_
    | refine NilG.go (fun _ => ?_) (fun _ => ?_)
    | refine Br.dec (fun _ => ?_) (fun _ => ?_)
    | refine Br.go (fun _ => ?_) (fun _ => ?_)
    | refine draw_go hT hP mixed ?_
    | refine round_go hT hP ?_
  · obtain ⟨k, rfl, hk, h0⟩ := hi
    omega
  · rename_i hz
    obtain ⟨k, rfl, hk, h0⟩ := hi
    have hlt : k < l.length := by omega
    have hz : v = l.getD k 0 := by simpa [dflt] using hz
    refine .mk [] [] _ rfl rfl rfl rfl rfl rfl (imm_int ?_)
    show (k : Int) = idxF (fun a => decide (v = a)) l 0
    rw [h0, idxF_step _ hlt, if_pos (decide_eq_true hz)]
  · rename_i hz
    obtain ⟨k, rfl, hk, h0⟩ := hi
    have hlt : k < l.length := by omega
    have hz : ¬ v = l.getD k 0 := by simpa [dflt] using hz
    have e : IntKind.i64.wrap ((k : Int) + 1) = ((k + 1 : Nat) : Int) := by rw [w64 (by omega) (by omega)]; omega
    apply Exists.intro _
    refine And.intro ?_ (And.intro ?_ (Le.mk [] [] rfl rfl ?hh ?ht))
    case hh => exact rfl
    case ht => repeat' first | exact trivial | exact ⟨rfl, rfl⟩ | refine And.intro ?_ ?_
    · refine ⟨k + 1, e, by omega, ?_⟩
      rw [h0, idxF_step _ hlt, if_neg (by simpa using hz)]
      rfl
    · show (l.length - IntKind.i64.wrap ((k : Int) + 1)).toNat < (l.length - (k : Int)).toNat
      rw [e]; omega
  · obtain ⟨k, rfl, hk, h0⟩ := hi
    refine .mk [] [] _ rfl rfl rfl rfl rfl rfl (imm_int ?_)
    show -1 = idxF (fun a => decide (v = a)) l 0
    rw [h0, List.drop_of_length_le (by omega)]; rfl
  · repeat' first | exact trivial | exact ⟨rfl, rfl⟩ | refine And.intro ?_ ?_
  · exact ⟨0, rfl, by omega, rfl⟩

def containsS : PSpec := ⟨[gl, gi], fun (l, v, _) => (some (List.length l ≤ 4611686018427387904), .cell (bv (l.any fun a => decide (v = a))), [])⟩
theorem contains_ok : GoodF Tryz.prog 105 containsS.spec := by
  have hT := tab_ok (fs := [(195, indexS.spec)]) tree_ok
  have hP : SpecsOk Tryz.prog (tab tree [(195, indexS.spec)]) := specs_cons index_ok specs_nil
  refine containsS.good (fn := Tryz.f105) hT hP Tryz.func105 (by kernel_rfl) rfl fun (l : List Int) (v : Int) hp => ?_
  have hp : l.length ≤ 4611686018427387904 := hp _ rfl
  repeat' first
    | (refine Go.mk ?_; conv => whnf)
    | refine Need.go ?_ ?_
    | refine NilG.go (fun _ => ?_) (fun _ => ?_)
    | refine Br.dec (fun _ => ?_) (fun _ => ?_)
    | refine Br.go (fun _ => ?_) (fun _ => ?_)
    | refine draw_go hT hP mixed ?_
    | refine round_go hT hP ?_
  · exact hp
  · refine .mk [] [] _ rfl rfl rfl rfl rfl rfl (imm_bool ?_)
    exact idxF_any _ l 0 (by omega)

end Go.Proofs.YtofgbclopbmlcaaGreat













/- What a processor does with a number from the bus. -/
namespace Go.Proofs.YtofgbclopbmlcaaGreat
open Go.Fw
set_option linter.unusedVariables false
set_option linter.unusedSimpArgs false
set_option linter.constructorNameAsVariable false
set_option maxRecDepth 100000

structure IdxX where
  g : Nat
  l : List Ins
  op : Int
-- copies

theorem setD_self {α : Type} (l : List α) (n : Nat) (d : α) : l.set n (l.getD n d) = l := by
  apply List.ext_getElem?
  intro i
  rw [List.getElem?_set, List.getD_eq_getElem?_getD]
  by_cases h : n = i
  · subst h; by_cases h2 : n < l.length <;> simp [h2]
  · simp [h]
end Go.Proofs.YtofgbclopbmlcaaGreat

/- Tables of instructions compared: steps, cycles. -/
namespace Go.Proofs.YtofgbclopbmlcaaGreat
open Go.Fw
set_option linter.unusedVariables false
set_option linter.unusedSimpArgs false
set_option linter.constructorNameAsVariable false
set_option maxRecDepth 100000

structure EqcX where
  g : Nat
  l : List Cyc
  m : List Cyc
end Go.Proofs.YtofgbclopbmlcaaGreat

/- Slices cloned (printed by gensl.py). -/
namespace Go.Proofs.YtofgbclopbmlcaaGreat
open Go.Fw
set_option linter.unusedVariables false
set_option linter.unusedSimpArgs false
set_option linter.constructorNameAsVariable false
set_option maxRecDepth 100000
def clDevS : PSpec := ⟨[⟨false, .sl (DevT)⟩], fun (l, _) => (some (List.length l * 48 ≤ 140737488351232), .cell (.own 0), [.arr (DevT) l])⟩
theorem clDev_ok : GoodF Tryz.prog 71 clDevS.spec := by
  have hT := tab_ok (fs := []) tree_ok
  have hP : SpecsOk Tryz.prog (tab tree []) := specs_nil
  refine clDevS.good (fn := Tryz.f71) hT hP Tryz.func71 (by kernel_rfl) rfl fun (l : List (Den (DevT))) hq => ?_
  have hl : l.length * 48 ≤ 140737488351232 := hq _ rfl
  clear hq
  repeat' first
    | (refine Go.mk ?_; conv => whnf)
    | refine Need.go ?_ ?_
    | refine NilG.go (fun _ => ?_) (fun _ => ?_)
    | refine Br.dec (fun _ => ?_) (fun _ => ?_)
    | refine Br.go (fun _ => ?_) (fun _ => ?_)
    | refine draw_go hT hP mixed ?_
    | refine round_go hT hP ?_
  all_goals first
    | exact of_decide_eq_true rfl
    | skip
  · rename_i h
    obtain rfl : l = [] := List.eq_nil_of_length_eq_zero h
    exact .le (Le.nil 2 (DevT) rfl) (.mk [] [0] _ rfl rfl rfl rfl rfl rfl rfl)
  · show (0 + l.length) * 48 ≤ 140737488355328
    omega
  · exact .mk [] [1] _ rfl rfl rfl rfl rfl rfl rfl

def clIntS : PSpec := ⟨[⟨false, .sl (.int .i64)⟩], fun (l, _) => (some (List.length l * 8 ≤ 140737488351232), .cell (.own 0), [.arr (.int .i64) l])⟩
theorem clInt_ok : GoodF Tryz.prog 128 clIntS.spec := by
  have hT := tab_ok (fs := []) tree_ok
  have hP : SpecsOk Tryz.prog (tab tree []) := specs_nil
  refine clIntS.good (fn := Tryz.f128) hT hP Tryz.func128 (by kernel_rfl) rfl fun (l : List (Den (.int .i64))) hq => ?_
  have hl : l.length * 8 ≤ 140737488351232 := hq _ rfl
  clear hq
  repeat' first
    | (refine Go.mk ?_; conv => whnf)
    | refine Need.go ?_ ?_
    | refine NilG.go (fun _ => ?_) (fun _ => ?_)
    | refine Br.dec (fun _ => ?_) (fun _ => ?_)
    | refine Br.go (fun _ => ?_) (fun _ => ?_)
    | refine draw_go hT hP mixed ?_
    | refine round_go hT hP ?_
  all_goals first
    | exact of_decide_eq_true rfl
    | skip
  · rename_i h
    obtain rfl : l = [] := List.eq_nil_of_length_eq_zero h
    exact .le (Le.nil 2 (.int .i64) rfl) (.mk [] [0] _ rfl rfl rfl rfl rfl rfl rfl)
  · show (0 + l.length) * 8 ≤ 140737488355328
    omega
  · exact .mk [] [1] _ rfl rfl rfl rfl rfl rfl rfl

def clByteS : PSpec := ⟨[⟨false, .sl (.int .u8)⟩], fun (l, _) => (some (List.length l * 1 ≤ 140737488351232), .cell (.own 0), [.arr (.int .u8) l])⟩
theorem clByte_ok : GoodF Tryz.prog 129 clByteS.spec := by
  have hT := tab_ok (fs := []) tree_ok
  have hP : SpecsOk Tryz.prog (tab tree []) := specs_nil
  refine clByteS.good (fn := Tryz.f129) hT hP Tryz.func129 (by kernel_rfl) rfl fun (l : List (Den (.int .u8))) hq => ?_
  have hl : l.length * 1 ≤ 140737488351232 := hq _ rfl
  clear hq
  repeat' first
    | (refine Go.mk ?_; conv => whnf)
    | refine Need.go ?_ ?_
    | refine NilG.go (fun _ => ?_) (fun _ => ?_)
    | refine Br.dec (fun _ => ?_) (fun _ => ?_)
    | refine Br.go (fun _ => ?_) (fun _ => ?_)
    | refine draw_go hT hP mixed ?_
    | refine round_go hT hP ?_
  all_goals first
    | exact of_decide_eq_true rfl
    | skip
  · rename_i h
    obtain rfl : l = [] := List.eq_nil_of_length_eq_zero h
    exact .le (Le.nil 2 (.int .u8) rfl) (.mk [] [0] _ rfl rfl rfl rfl rfl rfl rfl)
  · show (0 + l.length) * 1 ≤ 140737488355328
    omega
  · exact .mk [] [1] _ rfl rfl rfl rfl rfl rfl rfl

end Go.Proofs.YtofgbclopbmlcaaGreat

/- bakelaw1.CoreAsks answers true, whatever it is given. -/
namespace Go.Proofs.YtofgbclopbmlcaaGreat
open Go.Fw
set_option linter.unusedVariables false
set_option linter.unusedSimpArgs false
set_option maxRecDepth 100000

-- the law

theorem denEq_self : ∀ {u : Ty} {x : Den u}, u.flat = true → denEq u x x = true
  | .int _, x, _ => by simp [denEq]
  | .ints _ _, x, _ => by simp [denEq]
  | .bool, x, _ => by simp [denEq]
  | .str, x, _ => by simp [denEq, strEq]
  | .sl _, _, h => by cases h
  | .pair a b, x, h => by
    simp only [Ty.flat, Bool.and_eq_true] at h
    simp only [denEq, denEq_self h.1, denEq_self h.2, Bool.and_self]
end Go.Proofs.YtofgbclopbmlcaaGreat



/- strings.Cut at a dot. -/
namespace Go.Proofs.YtofgbclopbmlcaaGreat
open Go.Fw
set_option linter.unusedVariables false
set_option linter.unusedSimpArgs false
set_option linter.constructorNameAsVariable false
set_option maxRecDepth 100000

def dotS : ByteArray := ⟨#[46]⟩
def dotI (s : ByteArray) : Int := Lib.indexByte s.data.toList 46
def idxDotS : PSpec := ⟨[gStr, gStr], fun (s, p, _) => (some (p = dotS), I (dotI s), [])⟩
theorem idxDot_ok : GoodF Tryz.prog 263 idxDotS.spec := by
  have hT := tab_ok (fs := [(118, idxbS.spec)]) tree_ok
  have hP : SpecsOk Tryz.prog (tab tree [(118, idxbS.spec)]) := specs_cons idxb_ok specs_nil
  refine idxDotS.good (fn := Tryz.f263) hT hP Tryz.func263 (by kernel_rfl) rfl fun (s p : ByteArray) hq => ?_
  obtain rfl : p = dotS := hq _ rfl
  clear hq
  repeat' first
    | (refine Go.mk ?_; conv => whnf)
    | refine Need.go ?_ ?_
    | refine NilG.go (fun _ => ?_) (fun _ => ?_)
    | refine Br.dec (fun _ => ?_) (fun _ => ?_)
    | refine Br.go (fun _ => ?_) (fun _ => ?_)
    | refine draw_go hT hP mixed ?_
    | refine round_go hT hP ?_
  · rename_i g
    have g : strEq dotS s = true := g
    have e : dotS = s := (Lib.bytes_beq_iff _ _).1 g
    subst e
    refine .mk [] [] _ rfl rfl rfl rfl rfl rfl (imm_int ?_)
    show 0 = dotI dotS
    decide +kernel
  · exact of_decide_eq_true rfl
  · exact .mk [] [] _ rfl rfl rfl rfl rfl rfl rfl

theorem indexB_in (c : UInt8) : ∀ l : List UInt8, Lib.indexByte l c = -1 ∨ (0 ≤ Lib.indexByte l c ∧ Lib.indexByte l c < l.length)
  | [] => .inl rfl
  | x :: r => by
    have ih := indexB_in c r
    have hl : (x :: r).length = r.length + 1 := rfl
    unfold Lib.indexByte
    by_cases h1 : (x == c) = true
    · rw [if_pos h1, hl]; right; omega
    · rw [if_neg h1]
      by_cases h2 : (Lib.indexByte r c == -1) = true
      · rw [if_pos h2]; exact .inl rfl
      · rw [if_neg h2, hl]
        have h3 : Lib.indexByte r c ≠ -1 := fun h => h2 (beq_iff_eq.2 h)
        right; omega
theorem dotI_in {s : ByteArray} (h : dotI s ≥ 0) : dotI s < s.size := by
  have := indexB_in 46 s.data.toList
  have e : s.data.toList.length = s.size := Array.length_toList
  unfold dotI at *
  omega
def cutB (s : ByteArray) : ByteArray := if 0 ≤ dotI s then s.extract 0 (dotI s).toNat else s
def cutA (s : ByteArray) : ByteArray := if 0 ≤ dotI s then s.extract (dotI s + 1).toNat s.size else ⟨#[]⟩
def cutS : PSpec := ⟨[gStr, gStr], fun (s, p, _) => (some (p = dotS ∧ s.size ≤ 140737488351232), .tup [.c (.imm (.string (cutB s))), .c (.imm (.string (cutA s))), .c (bv (decide (0 ≤ dotI s)))], [])⟩
theorem slCut_ok : GoodF Tryz.prog 240 cutS.spec := by
  have hT := tab_ok (fs := [(263, idxDotS.spec)]) tree_ok
  have hP : SpecsOk Tryz.prog (tab tree [(263, idxDotS.spec)]) := specs_cons idxDot_ok specs_nil
  refine cutS.good (fn := Tryz.f240) hT hP Tryz.func240 (by kernel_rfl) rfl fun (s p : ByteArray) hq => ?_
  obtain ⟨hp, hl⟩ : p = dotS ∧ s.size ≤ 140737488351232 := hq _ rfl
  clear hq
  subst hp
  repeat' first
    | (refine Go.mk ?_; conv => whnf)
    | refine Need.go ?_ ?_
    | refine NilG.go (fun _ => ?_) (fun _ => ?_)
    | refine Br.dec (fun _ => ?_) (fun _ => ?_)
    | refine Br.go (fun _ => ?_) (fun _ => ?_)
    | refine draw_go hT hP mixed ?_
    | refine round_go hT hP ?_
  · exact rfl
  · rename_i g
    have g : dotI s ≥ 0 := g
    have := dotI_in g
    show 0 ≤ dotI s ∧ dotI s ≤ (s.size : Int)
    omega
  · rename_i g
    have g : dotI s ≥ 0 := g
    have := dotI_in g
    show 0 ≤ IntKind.i64.wrap (dotI s + 1) ∧ IntKind.i64.wrap (dotI s + 1) ≤ (s.size : Int)
    rw [w64 (by omega) (by omega)]; omega
  · rename_i g
    have g : dotI s ≥ 0 := g
    have hin := dotI_in g
    have hw : IntKind.i64.wrap (dotI s + 1) = dotI s + 1 := w64 (by omega) (by omega)
    have e1 : cutB s = s.extract 0 (dotI s).toNat := if_pos g
    have e2 : cutA s = s.extract (IntKind.i64.wrap (dotI s + 1)).toNat s.size := by rw [hw]; exact if_pos g
    refine .mk [] [] _ rfl rfl rfl rfl rfl rfl ?_
    show AV.tup [.c (.imm (.string (s.extract 0 (dotI s).toNat))), .c (.imm (.string (s.extract (IntKind.i64.wrap (dotI s + 1)).toNat s.size))), .c (bv true)] = AV.tup [.c (.imm (.string (cutB s))), .c (.imm (.string (cutA s))), .c (bv (decide (0 ≤ dotI s)))]
    rw [e1, e2, decide_eq_true (show 0 ≤ dotI s from g)]
  · rename_i g
    have g : ¬ dotI s ≥ 0 := g
    have e1 : cutB s = s := if_neg g
    have e2 : cutA s = ⟨#[]⟩ := if_neg g
    refine .mk [] [] _ rfl rfl rfl rfl rfl rfl ?_
    show AV.tup [.c (.imm (.string s)), .c (.imm (.string ⟨#[]⟩)), .c (bv false)] = AV.tup [.c (.imm (.string (cutB s))), .c (.imm (.string (cutA s))), .c (bv (decide (0 ≤ dotI s)))]
    rw [e1, e2, decide_eq_false (show ¬ 0 ≤ dotI s from g)]
theorem cut_ok : GoodF Tryz.prog 193 cutS.spec := by
  have hT := tab_ok (fs := [(240, cutS.spec)]) tree_ok
  have hP : SpecsOk Tryz.prog (tab tree [(240, cutS.spec)]) := specs_cons slCut_ok specs_nil
  refine cutS.good (fn := Tryz.f193) hT hP Tryz.func193 (by kernel_rfl) rfl fun (s p : ByteArray) hq => ?_
  have hp : p = dotS ∧ s.size ≤ 140737488351232 := hq _ rfl
  clear hq
  repeat' first
    | (refine Go.mk ?_; conv => whnf)
    | refine Need.go ?_ ?_
    | refine NilG.go (fun _ => ?_) (fun _ => ?_)
    | refine Br.dec (fun _ => ?_) (fun _ => ?_)
    | refine Br.go (fun _ => ?_) (fun _ => ?_)
    | refine draw_go hT hP mixed ?_
    | refine round_go hT hP ?_
  · exact hp
  · exact .mk [] [] _ rfl rfl rfl rfl rfl rfl rfl

end Go.Proofs.YtofgbclopbmlcaaGreat

/- Steps of a cycle: are they well-formed? -/
namespace Go.Proofs.YtofgbclopbmlcaaGreat
open Go.Fw
set_option linter.unusedVariables false
set_option linter.unusedSimpArgs false
set_option linter.constructorNameAsVariable false
set_option maxRecDepth 100000

def regB (r : Int) : Bool := bif decide (r ≥ 0) then decide (r < 9) else false
def tregS : PSpec := ⟨[gi], fun (r, _) => (none, .cell (bv (regB r)), [])⟩
theorem treg_ok : GoodF Tryz.prog 261 tregS.spec := by
  have hT := tab_ok (fs := []) tree_ok
  have hP : SpecsOk Tryz.prog (tab tree []) := specs_nil
  refine tregS.good (fn := Tryz.f261) hT hP Tryz.func261 (by kernel_rfl) rfl fun (r : Int) _ => ?_
  repeat' first
    | (refine Go.mk ?_; conv => whnf)
    | refine Need.go ?_ ?_
    | refine NilG.go (fun _ => ?_) (fun _ => ?_)
    | refine Br.dec (fun _ => ?_) (fun _ => ?_)
    | refine Br.go (fun _ => ?_) (fun _ => ?_)
    | refine draw_go hT hP mixed ?_
    | refine round_go hT hP ?_
  all_goals (refine .mk [] [] _ rfl rfl rfl rfl rfl rfl (imm_bool ?_))
  all_goals (unfold regB; simp_all)
  all_goals omega
def useT (d : Int) : Int × Int × Bool :=
  if d = 1 then (115, 115, false) else if d = 2 then (97, 0, true) else if d = 3 ∨ d = 12 ∨ d = 13 ∨ d = 14 ∨ d = 15 then (98, 0, false) else if d = 4 ∨ d = 5 ∨ d = 6 ∨ d = 7 ∨ d = 8 ∨ d = 9 then (98, 98, false)
  else if d = 10 ∨ d = 11 then (97, 0, false) else if d = 16 ∨ d = 17 then (0, 0, true) else if d = 18 ∨ d = 19 ∨ d = 22 ∨ d = 23 then (119, 98, false) else if d = 20 ∨ d = 21 then (98, 119, false) else (0, 0, false)
def tusesS : PSpec := ⟨[gi], fun (d, _) => (none, .tup [.c (.imm (.int .u8 (useT d).1)), .c (.imm (.int .u8 (useT d).2.1)), .c (bv (useT d).2.2)], [])⟩
theorem tup_u {x y : Int × Int × Bool} (h : x = y) : AV.tup [.c (.imm (.int .u8 x.1)), .c (.imm (.int .u8 x.2.1)), .c (bv x.2.2)] = AV.tup [.c (.imm (.int .u8 y.1)), .c (.imm (.int .u8 y.2.1)), .c (bv y.2.2)] := by rw [h]
theorem tuses_ok : GoodF Tryz.prog 270 tusesS.spec := by
  have hT := tab_ok (fs := []) tree_ok
  have hP : SpecsOk Tryz.prog (tab tree []) := specs_nil
  refine tusesS.good (fn := Tryz.f270) hT hP Tryz.func270 (by kernel_rfl) rfl fun (d : Int) _ => ?_
  repeat' first
    | (refine Go.mk ?_; conv => whnf)
    | refine Need.go ?_ ?_
    | refine NilG.go (fun _ => ?_) (fun _ => ?_)
    | refine Br.dec (fun _ => ?_) (fun _ => ?_)
    | refine Br.go (fun _ => ?_) (fun _ => ?_)
    | refine draw_go hT hP mixed ?_
    | refine round_go hT hP ?_
  all_goals clear hT hP
  all_goals first
    | (rename_i g
       have g : d = _ := g
       subst g
       exact .mk [] [] _ rfl rfl rfl rfl rfl rfl rfl)
    | skip
  refine .mk [] [] _ rfl rfl rfl rfl rfl rfl (tup_u (x := (0, 0, false)) ?_)
  unfold useT
  simp_all
def fitB (r n : Int) : Bool := if n = 0 then decide (r = 0) else if n = 119 then (bif regB r then wideB r else false) else if n = 98 then (bif regB r then !wideB r else false) else regB r
def tfitsS : PSpec := ⟨[gi, ⟨false, .int .u8⟩], fun (r, n, _) => (none, .cell (bv (fitB r n)), [])⟩
theorem tfits_ok : GoodF Tryz.prog 271 tfitsS.spec := by
  have hT := tab_ok (fs := [(261, tregS.spec), (250, wideS.spec)]) tree_ok
  have hP : SpecsOk Tryz.prog (tab tree [(261, tregS.spec), (250, wideS.spec)]) := specs_cons treg_ok (specs_cons tWide_ok specs_nil)
  refine tfitsS.good (fn := Tryz.f271) hT hP Tryz.func271 (by kernel_rfl) rfl fun (r n : Int) _ => ?_
  repeat' first
    | (refine Go.mk ?_; conv => whnf)
    | refine Need.go ?_ ?_
    | refine NilG.go (fun _ => ?_) (fun _ => ?_)
    | refine Br.dec (fun _ => ?_) (fun _ => ?_)
    | refine Br.go (fun _ => ?_) (fun _ => ?_)
    | refine draw_go hT hP mixed ?_
    | refine round_go hT hP ?_
  all_goals clear hT hP
  all_goals (refine .mk [] [] _ rfl rfl rfl rfl rfl rfl (imm_bool ?_))
  all_goals (show _ = fitB r n; unfold fitB; simp_all)
  all_goals rfl
/-- what is wrong with a step (8: its kind, 1: its arguments) -/
def mostI (s : Stp) : Int := if (useT s.1).2.2 = false then 0 else if s.1 = 2 ∧ (regB s.2.1 = true ∧ wideB s.2.1 = true) then 65535 else 255
def stpE (s : Stp) : Int :=
  if s.1 < 0 ∨ s.1 ≥ 25 then 8 else
  if s.1 = 24 then (if s.2.1 ≠ 0 ∨ s.2.2.1 < 0 ∨ s.2.2.1 > 1 ∨ s.2.2.2 < 0 ∨ s.2.2.2 > 255 then 1 else 0) else
  if fitB s.2.1 (useT s.1).1 = false ∨ fitB s.2.2.1 (useT s.1).2.1 = false ∨ ((useT s.1).1 = 115 ∧ wideB s.2.1 ≠ wideB s.2.2.1) ∨ s.2.2.2 < 0 ∨ s.2.2.2 > mostI s then 1 else 0
abbrev gStep : Sig := ⟨true, StepT⟩
def tstepS : PSpec := ⟨[gStep], fun (s, _) => (none, I (stpE s), [])⟩
set_option maxHeartbeats 4000000 in
theorem tstep_ok : GoodF Tryz.prog 262 tstepS.spec := by
  have hT := tab_ok (fs := [(261, tregS.spec), (250, wideS.spec), (270, tusesS.spec), (271, tfitsS.spec)]) tree_ok
  have hP : SpecsOk Tryz.prog (tab tree [(261, tregS.spec), (250, wideS.spec), (270, tusesS.spec), (271, tfitsS.spec)]) := specs_cons treg_ok (specs_cons tWide_ok (specs_cons tuses_ok (specs_cons tfits_ok specs_nil)))
  refine tstepS.good (fn := Tryz.f262) hT hP Tryz.func262 (by kernel_rfl) rfl fun (s : Stp) _ => ?_
  obtain ⟨sd, st, sf, sn⟩ := s
  repeat' first
    | (refine Go.mk ?_; conv => whnf)
    | refine Need.go ?_ ?_
    | refine NilG.go (fun _ => ?_) (fun _ => ?_)
    | refine Br.dec (fun _ => ?_) (fun _ => ?_)
    | refine Br.go (fun _ => ?_) (fun _ => ?_)
    | refine draw_go hT hP mixed ?_
    | refine round_go hT hP ?_
  all_goals clear hT hP
  all_goals (refine .mk [] [] _ rfl rfl rfl rfl rfl rfl (imm_int ?_))
  all_goals (show _ = stpE (sd, st, sf, sn); unfold stpE mostI wideB)
  all_goals (simp_all)
  all_goals (try omega)
  all_goals first
    | (exfalso
       have h2 : (useT 2).1 = 115 := by assumption
       exact absurd h2 (by decide))
    | (simp_all [wideB]; done)
    | (simp_all [wideB]; omega)

end Go.Proofs.YtofgbclopbmlcaaGreat

/- Steps of a cycle: what the reference says, the contract. -/
namespace Go.Proofs.YtofgbclopbmlcaaGreat
open Go.Fw
set_option linter.unusedVariables false
set_option linter.unusedSimpArgs false
set_option linter.constructorNameAsVariable false
set_option maxRecDepth 100000

theorem do_in {k : Int} (h : k < 0 ∨ k > 24) (g : ¬ k < 0) (g2 : ¬ k > 24) : False := by omega
def rstepS (d : Int) : PSpec := ⟨[gStep], fun (s, _) => (some (s.1 = d), I (stpE s), [])⟩
def rstepXS : PSpec := ⟨[gStep], fun (s, _) => (some (s.1 < 0 ∨ s.1 > 24), I (stpE s), [])⟩

end Go.Proofs.YtofgbclopbmlcaaGreat

/- Steps of a cycle: what the reference says, kind by kind (printed by genstep.py). -/
namespace Go.Proofs.YtofgbclopbmlcaaGreat
open Go.Fw
set_option linter.unusedVariables false
set_option linter.unusedSimpArgs false
set_option linter.constructorNameAsVariable false
set_option maxRecDepth 100000

set_option maxHeartbeats 4000000 in
theorem rStep0_ok : GoodF Tryz.prog 199 (rstepS 0).spec := by
  have hT := tab_ok (fs := [(139, narrowS.spec), (140, wideS.spec)]) tree_ok
  have hP : SpecsOk Tryz.prog (tab tree [(139, narrowS.spec), (140, wideS.spec)]) := specs_cons rNarrow_ok (specs_cons rWide_ok specs_nil)
  refine (rstepS 0).good (fn := Tryz.f199) hT hP Tryz.func199 (by kernel_rfl) rfl fun (s : Stp) hq => ?_
  obtain ⟨sd, st, sf, sn⟩ := s
  have hd : sd = 0 := hq _ rfl
  clear hq
  subst hd
  repeat' first
    | (refine Go.mk ?_; conv => whnf)
    | refine Need.go ?_ ?_
    | refine NilG.go (fun _ => ?_) (fun _ => ?_)
    | refine Br.dec (fun _ => ?_) (fun _ => ?_)
    | refine Br.go (fun _ => ?_) (fun _ => ?_)
    | refine draw_go hT hP mixed ?_
    | refine round_go hT hP ?_
  all_goals clear hT hP
  all_goals (refine .mk [] [] _ rfl rfl rfl rfl rfl rfl (imm_int ?_))
  all_goals (show _ = stpE (0, st, sf, sn))
  all_goals (simp [stpE, mostI, useT, fitB, regB, wideB, narrowB] at *)
  all_goals first
    | omega
    | (simp_all; done)
    | (simp_all; omega)
    | (refine ⟨by omega, by omega, ?_, by omega, by omega⟩; rw [Bool.eq_iff_iff]; simp; omega)
    | skip

set_option maxHeartbeats 4000000 in
theorem rStep1_ok : GoodF Tryz.prog 199 (rstepS 1).spec := by
  have hT := tab_ok (fs := [(139, narrowS.spec), (140, wideS.spec)]) tree_ok
  have hP : SpecsOk Tryz.prog (tab tree [(139, narrowS.spec), (140, wideS.spec)]) := specs_cons rNarrow_ok (specs_cons rWide_ok specs_nil)
  refine (rstepS 1).good (fn := Tryz.f199) hT hP Tryz.func199 (by kernel_rfl) rfl fun (s : Stp) hq => ?_
  obtain ⟨sd, st, sf, sn⟩ := s
  have hd : sd = 1 := hq _ rfl
  clear hq
  subst hd
  repeat' first
    | (refine Go.mk ?_; conv => whnf)
    | refine Need.go ?_ ?_
    | refine NilG.go (fun _ => ?_) (fun _ => ?_)
    | refine Br.dec (fun _ => ?_) (fun _ => ?_)
    | refine Br.go (fun _ => ?_) (fun _ => ?_)
    | refine draw_go hT hP mixed ?_
    | refine round_go hT hP ?_
  all_goals clear hT hP
  all_goals (refine .mk [] [] _ rfl rfl rfl rfl rfl rfl (imm_int ?_))
  all_goals (show _ = stpE (1, st, sf, sn))
  all_goals (simp [stpE, mostI, useT, fitB, regB, wideB, narrowB] at *)
  all_goals first
    | omega
    | (simp_all; done)
    | (simp_all; omega)
    | (refine ⟨by omega, by omega, ?_, by omega, by omega⟩; rw [Bool.eq_iff_iff]; simp; omega)
    | skip

set_option maxHeartbeats 4000000 in
theorem rStep2_ok : GoodF Tryz.prog 199 (rstepS 2).spec := by
  have hT := tab_ok (fs := [(139, narrowS.spec), (140, wideS.spec)]) tree_ok
  have hP : SpecsOk Tryz.prog (tab tree [(139, narrowS.spec), (140, wideS.spec)]) := specs_cons rNarrow_ok (specs_cons rWide_ok specs_nil)
  refine (rstepS 2).good (fn := Tryz.f199) hT hP Tryz.func199 (by kernel_rfl) rfl fun (s : Stp) hq => ?_
  obtain ⟨sd, st, sf, sn⟩ := s
  have hd : sd = 2 := hq _ rfl
  clear hq
  subst hd
  repeat' first
    | (refine Go.mk ?_; conv => whnf)
    | refine Need.go ?_ ?_
    | refine NilG.go (fun _ => ?_) (fun _ => ?_)
    | refine Br.dec (fun _ => ?_) (fun _ => ?_)
    | refine Br.go (fun _ => ?_) (fun _ => ?_)
    | refine draw_go hT hP mixed ?_
    | refine round_go hT hP ?_
  all_goals clear hT hP
  all_goals (refine .mk [] [] _ rfl rfl rfl rfl rfl rfl (imm_int ?_))
  all_goals (show _ = stpE (2, st, sf, sn))
  all_goals (simp [stpE, mostI, useT, fitB, regB, wideB, narrowB] at *)
  all_goals first
    | omega
    | (simp_all; done)
    | (simp_all; omega)
    | (refine ⟨by omega, by omega, ?_, by omega, by omega⟩; rw [Bool.eq_iff_iff]; simp; omega)
    | skip

set_option maxHeartbeats 4000000 in
theorem rStep3_ok : GoodF Tryz.prog 199 (rstepS 3).spec := by
  have hT := tab_ok (fs := [(139, narrowS.spec), (140, wideS.spec)]) tree_ok
  have hP : SpecsOk Tryz.prog (tab tree [(139, narrowS.spec), (140, wideS.spec)]) := specs_cons rNarrow_ok (specs_cons rWide_ok specs_nil)
  refine (rstepS 3).good (fn := Tryz.f199) hT hP Tryz.func199 (by kernel_rfl) rfl fun (s : Stp) hq => ?_
  obtain ⟨sd, st, sf, sn⟩ := s
  have hd : sd = 3 := hq _ rfl
  clear hq
  subst hd
  repeat' first
    | (refine Go.mk ?_; conv => whnf)
    | refine Need.go ?_ ?_
    | refine NilG.go (fun _ => ?_) (fun _ => ?_)
    | refine Br.dec (fun _ => ?_) (fun _ => ?_)
    | refine Br.go (fun _ => ?_) (fun _ => ?_)
    | refine draw_go hT hP mixed ?_
    | refine round_go hT hP ?_
  all_goals clear hT hP
  all_goals (refine .mk [] [] _ rfl rfl rfl rfl rfl rfl (imm_int ?_))
  all_goals (show _ = stpE (3, st, sf, sn))
  all_goals (simp [stpE, mostI, useT, fitB, regB, wideB, narrowB] at *)
  all_goals first
    | omega
    | (simp_all; done)
    | (simp_all; omega)
    | (refine ⟨by omega, by omega, ?_, by omega, by omega⟩; rw [Bool.eq_iff_iff]; simp; omega)
    | skip

set_option maxHeartbeats 4000000 in
theorem rStep4_ok : GoodF Tryz.prog 199 (rstepS 4).spec := by
  have hT := tab_ok (fs := [(139, narrowS.spec), (140, wideS.spec)]) tree_ok
  have hP : SpecsOk Tryz.prog (tab tree [(139, narrowS.spec), (140, wideS.spec)]) := specs_cons rNarrow_ok (specs_cons rWide_ok specs_nil)
  refine (rstepS 4).good (fn := Tryz.f199) hT hP Tryz.func199 (by kernel_rfl) rfl fun (s : Stp) hq => ?_
  obtain ⟨sd, st, sf, sn⟩ := s
  have hd : sd = 4 := hq _ rfl
  clear hq
  subst hd
  repeat' first
    | (refine Go.mk ?_; conv => whnf)
    | refine Need.go ?_ ?_
    | refine NilG.go (fun _ => ?_) (fun _ => ?_)
    | refine Br.dec (fun _ => ?_) (fun _ => ?_)
    | refine Br.go (fun _ => ?_) (fun _ => ?_)
    | refine draw_go hT hP mixed ?_
    | refine round_go hT hP ?_
  all_goals clear hT hP
  all_goals (refine .mk [] [] _ rfl rfl rfl rfl rfl rfl (imm_int ?_))
  all_goals (show _ = stpE (4, st, sf, sn))
  all_goals (simp [stpE, mostI, useT, fitB, regB, wideB, narrowB] at *)
  all_goals first
    | omega
    | (simp_all; done)
    | (simp_all; omega)
    | (refine ⟨by omega, by omega, ?_, by omega, by omega⟩; rw [Bool.eq_iff_iff]; simp; omega)
    | skip

set_option maxHeartbeats 4000000 in
theorem rStep5_ok : GoodF Tryz.prog 199 (rstepS 5).spec := by
  have hT := tab_ok (fs := [(139, narrowS.spec), (140, wideS.spec)]) tree_ok
  have hP : SpecsOk Tryz.prog (tab tree [(139, narrowS.spec), (140, wideS.spec)]) := specs_cons rNarrow_ok (specs_cons rWide_ok specs_nil)
  refine (rstepS 5).good (fn := Tryz.f199) hT hP Tryz.func199 (by kernel_rfl) rfl fun (s : Stp) hq => ?_
  obtain ⟨sd, st, sf, sn⟩ := s
  have hd : sd = 5 := hq _ rfl
  clear hq
  subst hd
  repeat' first
    | (refine Go.mk ?_; conv => whnf)
    | refine Need.go ?_ ?_
    | refine NilG.go (fun _ => ?_) (fun _ => ?_)
    | refine Br.dec (fun _ => ?_) (fun _ => ?_)
    | refine Br.go (fun _ => ?_) (fun _ => ?_)
    | refine draw_go hT hP mixed ?_
    | refine round_go hT hP ?_
  all_goals clear hT hP
  all_goals (refine .mk [] [] _ rfl rfl rfl rfl rfl rfl (imm_int ?_))
  all_goals (show _ = stpE (5, st, sf, sn))
  all_goals (simp [stpE, mostI, useT, fitB, regB, wideB, narrowB] at *)
  all_goals first
    | omega
    | (simp_all; done)
    | (simp_all; omega)
    | (refine ⟨by omega, by omega, ?_, by omega, by omega⟩; rw [Bool.eq_iff_iff]; simp; omega)
    | skip

set_option maxHeartbeats 4000000 in
theorem rStep6_ok : GoodF Tryz.prog 199 (rstepS 6).spec := by
  have hT := tab_ok (fs := [(139, narrowS.spec), (140, wideS.spec)]) tree_ok
  have hP : SpecsOk Tryz.prog (tab tree [(139, narrowS.spec), (140, wideS.spec)]) := specs_cons rNarrow_ok (specs_cons rWide_ok specs_nil)
  refine (rstepS 6).good (fn := Tryz.f199) hT hP Tryz.func199 (by kernel_rfl) rfl fun (s : Stp) hq => ?_
  obtain ⟨sd, st, sf, sn⟩ := s
  have hd : sd = 6 := hq _ rfl
  clear hq
  subst hd
  repeat' first
    | (refine Go.mk ?_; conv => whnf)
    | refine Need.go ?_ ?_
    | refine NilG.go (fun _ => ?_) (fun _ => ?_)
    | refine Br.dec (fun _ => ?_) (fun _ => ?_)
    | refine Br.go (fun _ => ?_) (fun _ => ?_)
    | refine draw_go hT hP mixed ?_
    | refine round_go hT hP ?_
  all_goals clear hT hP
  all_goals (refine .mk [] [] _ rfl rfl rfl rfl rfl rfl (imm_int ?_))
  all_goals (show _ = stpE (6, st, sf, sn))
  all_goals (simp [stpE, mostI, useT, fitB, regB, wideB, narrowB] at *)
  all_goals first
    | omega
    | (simp_all; done)
    | (simp_all; omega)
    | (refine ⟨by omega, by omega, ?_, by omega, by omega⟩; rw [Bool.eq_iff_iff]; simp; omega)
    | skip

set_option maxHeartbeats 4000000 in
theorem rStep7_ok : GoodF Tryz.prog 199 (rstepS 7).spec := by
  have hT := tab_ok (fs := [(139, narrowS.spec), (140, wideS.spec)]) tree_ok
  have hP : SpecsOk Tryz.prog (tab tree [(139, narrowS.spec), (140, wideS.spec)]) := specs_cons rNarrow_ok (specs_cons rWide_ok specs_nil)
  refine (rstepS 7).good (fn := Tryz.f199) hT hP Tryz.func199 (by kernel_rfl) rfl fun (s : Stp) hq => ?_
  obtain ⟨sd, st, sf, sn⟩ := s
  have hd : sd = 7 := hq _ rfl
  clear hq
  subst hd
  repeat' first
    | (refine Go.mk ?_; conv => whnf)
    | refine Need.go ?_ ?_
    | refine NilG.go (fun _ => ?_) (fun _ => ?_)
    | refine Br.dec (fun _ => ?_) (fun _ => ?_)
    | refine Br.go (fun _ => ?_) (fun _ => ?_)
    | refine draw_go hT hP mixed ?_
    | refine round_go hT hP ?_
  all_goals clear hT hP
  all_goals (refine .mk [] [] _ rfl rfl rfl rfl rfl rfl (imm_int ?_))
  all_goals (show _ = stpE (7, st, sf, sn))
  all_goals (simp [stpE, mostI, useT, fitB, regB, wideB, narrowB] at *)
  all_goals first
    | omega
    | (simp_all; done)
    | (simp_all; omega)
    | (refine ⟨by omega, by omega, ?_, by omega, by omega⟩; rw [Bool.eq_iff_iff]; simp; omega)
    | skip

set_option maxHeartbeats 4000000 in
theorem rStep8_ok : GoodF Tryz.prog 199 (rstepS 8).spec := by
  have hT := tab_ok (fs := [(139, narrowS.spec), (140, wideS.spec)]) tree_ok
  have hP : SpecsOk Tryz.prog (tab tree [(139, narrowS.spec), (140, wideS.spec)]) := specs_cons rNarrow_ok (specs_cons rWide_ok specs_nil)
  refine (rstepS 8).good (fn := Tryz.f199) hT hP Tryz.func199 (by kernel_rfl) rfl fun (s : Stp) hq => ?_
  obtain ⟨sd, st, sf, sn⟩ := s
  have hd : sd = 8 := hq _ rfl
  clear hq
  subst hd
  repeat' first
    | (refine Go.mk ?_; conv => whnf)
    | refine Need.go ?_ ?_
    | refine NilG.go (fun _ => ?_) (fun _ => ?_)
    | refine Br.dec (fun _ => ?_) (fun _ => ?_)
    | refine Br.go (fun _ => ?_) (fun _ => ?_)
    | refine draw_go hT hP mixed ?_
    | refine round_go hT hP ?_
  all_goals clear hT hP
  all_goals (refine .mk [] [] _ rfl rfl rfl rfl rfl rfl (imm_int ?_))
  all_goals (show _ = stpE (8, st, sf, sn))
  all_goals (simp [stpE, mostI, useT, fitB, regB, wideB, narrowB] at *)
  all_goals first
    | omega
    | (simp_all; done)
    | (simp_all; omega)
    | (refine ⟨by omega, by omega, ?_, by omega, by omega⟩; rw [Bool.eq_iff_iff]; simp; omega)
    | skip

end Go.Proofs.YtofgbclopbmlcaaGreat

/- Steps of a cycle: what the reference says, kind by kind (printed by genstep.py). -/
namespace Go.Proofs.YtofgbclopbmlcaaGreat
open Go.Fw
set_option linter.unusedVariables false
set_option linter.unusedSimpArgs false
set_option linter.constructorNameAsVariable false
set_option maxRecDepth 100000

set_option maxHeartbeats 4000000 in
theorem rStep9_ok : GoodF Tryz.prog 199 (rstepS 9).spec := by
  have hT := tab_ok (fs := [(139, narrowS.spec), (140, wideS.spec)]) tree_ok
  have hP : SpecsOk Tryz.prog (tab tree [(139, narrowS.spec), (140, wideS.spec)]) := specs_cons rNarrow_ok (specs_cons rWide_ok specs_nil)
  refine (rstepS 9).good (fn := Tryz.f199) hT hP Tryz.func199 (by kernel_rfl) rfl fun (s : Stp) hq => ?_
  obtain ⟨sd, st, sf, sn⟩ := s
  have hd : sd = 9 := hq _ rfl
  clear hq
  subst hd
  repeat' first
    | (refine Go.mk ?_; conv => whnf)
    | refine Need.go ?_ ?_
    | refine NilG.go (fun _ => ?_) (fun _ => ?_)
    | refine Br.dec (fun _ => ?_) (fun _ => ?_)
    | refine Br.go (fun _ => ?_) (fun _ => ?_)
    | refine draw_go hT hP mixed ?_
    | refine round_go hT hP ?_
  all_goals clear hT hP
  all_goals (refine .mk [] [] _ rfl rfl rfl rfl rfl rfl (imm_int ?_))
  all_goals (show _ = stpE (9, st, sf, sn))
  all_goals (simp [stpE, mostI, useT, fitB, regB, wideB, narrowB] at *)
  all_goals first
    | omega
    | (simp_all; done)
    | (simp_all; omega)
    | (refine ⟨by omega, by omega, ?_, by omega, by omega⟩; rw [Bool.eq_iff_iff]; simp; omega)
    | skip

set_option maxHeartbeats 4000000 in
theorem rStep10_ok : GoodF Tryz.prog 199 (rstepS 10).spec := by
  have hT := tab_ok (fs := [(139, narrowS.spec), (140, wideS.spec)]) tree_ok
  have hP : SpecsOk Tryz.prog (tab tree [(139, narrowS.spec), (140, wideS.spec)]) := specs_cons rNarrow_ok (specs_cons rWide_ok specs_nil)
  refine (rstepS 10).good (fn := Tryz.f199) hT hP Tryz.func199 (by kernel_rfl) rfl fun (s : Stp) hq => ?_
  obtain ⟨sd, st, sf, sn⟩ := s
  have hd : sd = 10 := hq _ rfl
  clear hq
  subst hd
  repeat' first
    | (refine Go.mk ?_; conv => whnf)
    | refine Need.go ?_ ?_
    | refine NilG.go (fun _ => ?_) (fun _ => ?_)
    | refine Br.dec (fun _ => ?_) (fun _ => ?_)
    | refine Br.go (fun _ => ?_) (fun _ => ?_)
    | refine draw_go hT hP mixed ?_
    | refine round_go hT hP ?_
  all_goals clear hT hP
  all_goals (refine .mk [] [] _ rfl rfl rfl rfl rfl rfl (imm_int ?_))
  all_goals (show _ = stpE (10, st, sf, sn))
  all_goals (simp [stpE, mostI, useT, fitB, regB, wideB, narrowB] at *)
  all_goals first
    | omega
    | (simp_all; done)
    | (simp_all; omega)
    | (refine ⟨by omega, by omega, ?_, by omega, by omega⟩; rw [Bool.eq_iff_iff]; simp; omega)
    | skip

set_option maxHeartbeats 4000000 in
theorem rStep11_ok : GoodF Tryz.prog 199 (rstepS 11).spec := by
  have hT := tab_ok (fs := [(139, narrowS.spec), (140, wideS.spec)]) tree_ok
  have hP : SpecsOk Tryz.prog (tab tree [(139, narrowS.spec), (140, wideS.spec)]) := specs_cons rNarrow_ok (specs_cons rWide_ok specs_nil)
  refine (rstepS 11).good (fn := Tryz.f199) hT hP Tryz.func199 (by kernel_rfl) rfl fun (s : Stp) hq => ?_
  obtain ⟨sd, st, sf, sn⟩ := s
  have hd : sd = 11 := hq _ rfl
  clear hq
  subst hd
  repeat' first
    | (refine Go.mk ?_; conv => whnf)
    | refine Need.go ?_ ?_
    | refine NilG.go (fun _ => ?_) (fun _ => ?_)
    | refine Br.dec (fun _ => ?_) (fun _ => ?_)
    | refine Br.go (fun _ => ?_) (fun _ => ?_)
    | refine draw_go hT hP mixed ?_
    | refine round_go hT hP ?_
  all_goals clear hT hP
  all_goals (refine .mk [] [] _ rfl rfl rfl rfl rfl rfl (imm_int ?_))
  all_goals (show _ = stpE (11, st, sf, sn))
  all_goals (simp [stpE, mostI, useT, fitB, regB, wideB, narrowB] at *)
  all_goals first
    | omega
    | (simp_all; done)
    | (simp_all; omega)
    | (refine ⟨by omega, by omega, ?_, by omega, by omega⟩; rw [Bool.eq_iff_iff]; simp; omega)
    | skip

set_option maxHeartbeats 4000000 in
theorem rStep12_ok : GoodF Tryz.prog 199 (rstepS 12).spec := by
  have hT := tab_ok (fs := [(139, narrowS.spec), (140, wideS.spec)]) tree_ok
  have hP : SpecsOk Tryz.prog (tab tree [(139, narrowS.spec), (140, wideS.spec)]) := specs_cons rNarrow_ok (specs_cons rWide_ok specs_nil)
  refine (rstepS 12).good (fn := Tryz.f199) hT hP Tryz.func199 (by kernel_rfl) rfl fun (s : Stp) hq => ?_
  obtain ⟨sd, st, sf, sn⟩ := s
  have hd : sd = 12 := hq _ rfl
  clear hq
  subst hd
  repeat' first
    | (refine Go.mk ?_; conv => whnf)
    | refine Need.go ?_ ?_
    | refine NilG.go (fun _ => ?_) (fun _ => ?_)
    | refine Br.dec (fun _ => ?_) (fun _ => ?_)
    | refine Br.go (fun _ => ?_) (fun _ => ?_)
    | refine draw_go hT hP mixed ?_
    | refine round_go hT hP ?_
  all_goals clear hT hP
  all_goals (refine .mk [] [] _ rfl rfl rfl rfl rfl rfl (imm_int ?_))
  all_goals (show _ = stpE (12, st, sf, sn))
  all_goals (simp [stpE, mostI, useT, fitB, regB, wideB, narrowB] at *)
  all_goals first
    | omega
    | (simp_all; done)
    | (simp_all; omega)
    | (refine ⟨by omega, by omega, ?_, by omega, by omega⟩; rw [Bool.eq_iff_iff]; simp; omega)
    | skip

set_option maxHeartbeats 4000000 in
theorem rStep13_ok : GoodF Tryz.prog 199 (rstepS 13).spec := by
  have hT := tab_ok (fs := [(139, narrowS.spec), (140, wideS.spec)]) tree_ok
  have hP : SpecsOk Tryz.prog (tab tree [(139, narrowS.spec), (140, wideS.spec)]) := specs_cons rNarrow_ok (specs_cons rWide_ok specs_nil)
  refine (rstepS 13).good (fn := Tryz.f199) hT hP Tryz.func199 (by kernel_rfl) rfl fun (s : Stp) hq => ?_
  obtain ⟨sd, st, sf, sn⟩ := s
  have hd : sd = 13 := hq _ rfl
  clear hq
  subst hd
  repeat' first
    | (refine Go.mk ?_; conv => whnf)
    | refine Need.go ?_ ?_
    | refine NilG.go (fun _ => ?_) (fun _ => ?_)
    | refine Br.dec (fun _ => ?_) (fun _ => ?_)
    | refine Br.go (fun _ => ?_) (fun _ => ?_)
    | refine draw_go hT hP mixed ?_
    | refine round_go hT hP ?_
  all_goals clear hT hP
  all_goals (refine .mk [] [] _ rfl rfl rfl rfl rfl rfl (imm_int ?_))
  all_goals (show _ = stpE (13, st, sf, sn))
  all_goals (simp [stpE, mostI, useT, fitB, regB, wideB, narrowB] at *)
  all_goals first
    | omega
    | (simp_all; done)
    | (simp_all; omega)
    | (refine ⟨by omega, by omega, ?_, by omega, by omega⟩; rw [Bool.eq_iff_iff]; simp; omega)
    | skip

set_option maxHeartbeats 4000000 in
theorem rStep14_ok : GoodF Tryz.prog 199 (rstepS 14).spec := by
  have hT := tab_ok (fs := [(139, narrowS.spec), (140, wideS.spec)]) tree_ok
  have hP : SpecsOk Tryz.prog (tab tree [(139, narrowS.spec), (140, wideS.spec)]) := specs_cons rNarrow_ok (specs_cons rWide_ok specs_nil)
  refine (rstepS 14).good (fn := Tryz.f199) hT hP Tryz.func199 (by kernel_rfl) rfl fun (s : Stp) hq => ?_
  obtain ⟨sd, st, sf, sn⟩ := s
  have hd : sd = 14 := hq _ rfl
  clear hq
  subst hd
  repeat' first
    | (refine Go.mk ?_; conv => whnf)
    | refine Need.go ?_ ?_
    | refine NilG.go (fun _ => ?_) (fun _ => ?_)
    | refine Br.dec (fun _ => ?_) (fun _ => ?_)
    | refine Br.go (fun _ => ?_) (fun _ => ?_)
    | refine draw_go hT hP mixed ?_
    | refine round_go hT hP ?_
  all_goals clear hT hP
  all_goals (refine .mk [] [] _ rfl rfl rfl rfl rfl rfl (imm_int ?_))
  all_goals (show _ = stpE (14, st, sf, sn))
  all_goals (simp [stpE, mostI, useT, fitB, regB, wideB, narrowB] at *)
  all_goals first
    | omega
    | (simp_all; done)
    | (simp_all; omega)
    | (refine ⟨by omega, by omega, ?_, by omega, by omega⟩; rw [Bool.eq_iff_iff]; simp; omega)
    | skip

set_option maxHeartbeats 4000000 in
theorem rStep15_ok : GoodF Tryz.prog 199 (rstepS 15).spec := by
  have hT := tab_ok (fs := [(139, narrowS.spec), (140, wideS.spec)]) tree_ok
  have hP : SpecsOk Tryz.prog (tab tree [(139, narrowS.spec), (140, wideS.spec)]) := specs_cons rNarrow_ok (specs_cons rWide_ok specs_nil)
  refine (rstepS 15).good (fn := Tryz.f199) hT hP Tryz.func199 (by kernel_rfl) rfl fun (s : Stp) hq => ?_
  obtain ⟨sd, st, sf, sn⟩ := s
  have hd : sd = 15 := hq _ rfl
  clear hq
  subst hd
  repeat' first
    | (refine Go.mk ?_; conv => whnf)
    | refine Need.go ?_ ?_
    | refine NilG.go (fun _ => ?_) (fun _ => ?_)
    | refine Br.dec (fun _ => ?_) (fun _ => ?_)
    | refine Br.go (fun _ => ?_) (fun _ => ?_)
    | refine draw_go hT hP mixed ?_
    | refine round_go hT hP ?_
  all_goals clear hT hP
  all_goals (refine .mk [] [] _ rfl rfl rfl rfl rfl rfl (imm_int ?_))
  all_goals (show _ = stpE (15, st, sf, sn))
  all_goals (simp [stpE, mostI, useT, fitB, regB, wideB, narrowB] at *)
  all_goals first
    | omega
    | (simp_all; done)
    | (simp_all; omega)
    | (refine ⟨by omega, by omega, ?_, by omega, by omega⟩; rw [Bool.eq_iff_iff]; simp; omega)
    | skip

set_option maxHeartbeats 4000000 in
theorem rStep16_ok : GoodF Tryz.prog 199 (rstepS 16).spec := by
  have hT := tab_ok (fs := [(139, narrowS.spec), (140, wideS.spec)]) tree_ok
  have hP : SpecsOk Tryz.prog (tab tree [(139, narrowS.spec), (140, wideS.spec)]) := specs_cons rNarrow_ok (specs_cons rWide_ok specs_nil)
  refine (rstepS 16).good (fn := Tryz.f199) hT hP Tryz.func199 (by kernel_rfl) rfl fun (s : Stp) hq => ?_
  obtain ⟨sd, st, sf, sn⟩ := s
  have hd : sd = 16 := hq _ rfl
  clear hq
  subst hd
  repeat' first
    | (refine Go.mk ?_; conv => whnf)
    | refine Need.go ?_ ?_
    | refine NilG.go (fun _ => ?_) (fun _ => ?_)
    | refine Br.dec (fun _ => ?_) (fun _ => ?_)
    | refine Br.go (fun _ => ?_) (fun _ => ?_)
    | refine draw_go hT hP mixed ?_
    | refine round_go hT hP ?_
  all_goals clear hT hP
  all_goals (refine .mk [] [] _ rfl rfl rfl rfl rfl rfl (imm_int ?_))
  all_goals (show _ = stpE (16, st, sf, sn))
  all_goals (simp [stpE, mostI, useT, fitB, regB, wideB, narrowB] at *)
  all_goals first
    | omega
    | (simp_all; done)
    | (simp_all; omega)
    | (refine ⟨by omega, by omega, ?_, by omega, by omega⟩; rw [Bool.eq_iff_iff]; simp; omega)
    | skip

set_option maxHeartbeats 4000000 in
theorem rStep17_ok : GoodF Tryz.prog 199 (rstepS 17).spec := by
  have hT := tab_ok (fs := [(139, narrowS.spec), (140, wideS.spec)]) tree_ok
  have hP : SpecsOk Tryz.prog (tab tree [(139, narrowS.spec), (140, wideS.spec)]) := specs_cons rNarrow_ok (specs_cons rWide_ok specs_nil)
  refine (rstepS 17).good (fn := Tryz.f199) hT hP Tryz.func199 (by kernel_rfl) rfl fun (s : Stp) hq => ?_
  obtain ⟨sd, st, sf, sn⟩ := s
  have hd : sd = 17 := hq _ rfl
  clear hq
  subst hd
  repeat' first
    | (refine Go.mk ?_; conv => whnf)
    | refine Need.go ?_ ?_
    | refine NilG.go (fun _ => ?_) (fun _ => ?_)
    | refine Br.dec (fun _ => ?_) (fun _ => ?_)
    | refine Br.go (fun _ => ?_) (fun _ => ?_)
    | refine draw_go hT hP mixed ?_
    | refine round_go hT hP ?_
  all_goals clear hT hP
  all_goals (refine .mk [] [] _ rfl rfl rfl rfl rfl rfl (imm_int ?_))
  all_goals (show _ = stpE (17, st, sf, sn))
  all_goals (simp [stpE, mostI, useT, fitB, regB, wideB, narrowB] at *)
  all_goals first
    | omega
    | (simp_all; done)
    | (simp_all; omega)
    | (refine ⟨by omega, by omega, ?_, by omega, by omega⟩; rw [Bool.eq_iff_iff]; simp; omega)
    | skip

end Go.Proofs.YtofgbclopbmlcaaGreat

