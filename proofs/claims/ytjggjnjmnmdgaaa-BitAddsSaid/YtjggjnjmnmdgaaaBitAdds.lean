/- bakelaw1.BitAdds answers true, whatever four numbers it is given. -/
import Derived.Test.YtjggjnjmnmdgaaaAddLaw
namespace Go.Proofs.Ytjggjnjmnmdgaaa
open Go.Fw
set_option linter.unusedVariables false
set_option linter.unusedSimpArgs false
set_option maxRecDepth 100000

theorem ba_facts (a b c n : Int) : ∃ k : Nat, k ≤ 62 ∧ (dig2F a n).length = k ∧ (dig2F b n).length = k ∧
    (addF a b c n).1 = of2F (adderF (dig2F a n) (dig2F b n) (land .i64 c 1)).1 ∧
    (addF a b c n).2 = (adderF (dig2F a n) (dig2F b n) (land .i64 c 1)).2 ∧
    (subF a b c n).1 = of2F (adderF (dig2F a n) (invF (dig2F b n)) (IntKind.i64.wrap (1 - land .i64 c 1))).1 ∧
    (subF a b c n).2 = IntKind.i64.wrap (1 - (adderF (dig2F a n) (invF (dig2F b n)) (IntKind.i64.wrap (1 - land .i64 c 1))).2) ∧
    (rolF a c n).1 = of2F (List.take ((((dig2F a n).length : Int)).toNat - 0) (List.drop 0 ([land .i64 c 1] ++ dig2F a n))) ∧
    (rolF a c n).2 = ([land .i64 c 1] ++ dig2F a n).getD (((dig2F a n).length : Int)).toNat 0 ∧
    (rorF a c n).1 = of2F (List.take ((dig2F a n ++ [land .i64 c 1]).length - Int.toNat 1) (List.drop (Int.toNat 1) (dig2F a n ++ [land .i64 c 1]))) ∧
    (rorF a c n).2 = (dig2F a n ++ [land .i64 c 1]).getD (Int.toNat 0) 0 ∧
    (adderF (dig2F a n) (dig2F b n) (land .i64 c 1)).1.length = k ∧ (adderF (dig2F a n) (invF (dig2F b n)) (IntKind.i64.wrap (1 - land .i64 c 1))).1.length = k := by
  obtain ⟨k, hk, hw, hd⟩ := width_nat n
  have h3 : 2 ^ k ≤ 2 ^ 62 := pow_le hk
  have hp : 0 < 2 ^ k := Nat.pow_pos (by omega)
  have hc : u64 c % 2 ≤ 1 := by omega
  have hA : u64 a % 2 ^ k < 2 ^ k := Nat.mod_lt _ hp
  have hB : u64 b % 2 ^ k < 2 ^ k := Nat.mod_lt _ hp
  have c1 : IntKind.i64.wrap (1 - ((u64 c % 2 : Nat) : Int)) = ((1 - u64 c % 2 : Nat) : Int) := by rw [w64 (by omega) (by omega)]; omega
  have add1 := adder_bits k (u64 a) (u64 b) (u64 c % 2) hk hc
  have sub1 := adder_bits k (u64 a) (2 ^ k - 1 - u64 b % 2 ^ k) (1 - u64 c % 2) hk (by omega)
  have em : (2 ^ k - 1 - u64 b % 2 ^ k) % 2 ^ k = 2 ^ k - 1 - u64 b % 2 ^ k := Nat.mod_eq_of_lt (by omega)
  rw [em] at sub1
  have q1 : (u64 a % 2 ^ k + (2 ^ k - 1 - u64 b % 2 ^ k) + (1 - u64 c % 2)) / 2 ^ k ≤ 1 := by
    have : (u64 a % 2 ^ k + (2 ^ k - 1 - u64 b % 2 ^ k) + (1 - u64 c % 2)) / 2 ^ k < 2 := Nat.div_lt_of_lt_mul (by omega)
    omega
  have bl : bitsN (u64 a) k = bitsN (u64 a % 2 ^ k) k := bitsN_mod (by simp)
  have l1 : [((u64 c % 2 : Nat) : Int)] ++ bitsN (u64 a) k = bitsN (2 * (u64 a % 2 ^ k) + u64 c % 2) (k + 1) := by
    rw [bitsN_succ, bl]
    have e1 : (2 * (u64 a % 2 ^ k) + u64 c % 2) % 2 = u64 c % 2 := by omega
    have e2 : (2 * (u64 a % 2 ^ k) + u64 c % 2) / 2 = u64 a % 2 ^ k := by omega
    rw [e1, e2]; rfl
  have l2 : bitsN (u64 a) k ++ [((u64 c % 2 : Nat) : Int)] = bitsN (2 ^ k * (u64 c % 2) + u64 a % 2 ^ k) (k + 1) := by
    rw [bitsN_add]
    have e1 : (2 ^ k * (u64 c % 2) + u64 a % 2 ^ k) / 2 ^ k = u64 c % 2 := by rw [Nat.mul_add_div hp, Nat.div_eq_of_lt hA, Nat.add_zero]
    have e2 : bitsN (2 ^ k * (u64 c % 2) + u64 a % 2 ^ k) k = bitsN (u64 a) k := bitsN_mod (by rw [Nat.mul_add_mod, Nat.mod_mod])
    rw [e1, e2]
    congr 1
    simp [bitsN]
  have x1 : (2 * (u64 a % 2 ^ k) + u64 c % 2) / 2 ^ k ≤ 1 := by
    have : (2 * (u64 a % 2 ^ k) + u64 c % 2) / 2 ^ k < 2 := Nat.div_lt_of_lt_mul (by omega)
    omega
  have hm : 2 ^ k * (u64 c % 2) ≤ 2 ^ k * 1 := Nat.mul_le_mul_left _ hc
  refine ⟨k, hk, by rw [hd, bitsN_len], by rw [hd, bitsN_len], ?_⟩
  rw [add_fact hk hw, sub_fact hk hw, rol_fact hk hw, ror_fact hk hw, land1, c1, hd, hd, inv_bits, add1, sub1, l1, l2, bitsN_len]
  refine ⟨?_, rfl, ?_, ?_, ?_, ?_, ?_, ?_, by rw [bitsN_len], by rw [bitsN_len]⟩
  · rw [of2F_bits _ _ hk]
  · rw [of2F_bits _ _ hk]
  · generalize (u64 a % 2 ^ k + (2 ^ k - 1 - u64 b % 2 ^ k) + (1 - u64 c % 2)) / 2 ^ k = Q at q1 ⊢
    show 1 - (Q : Int) = IntKind.i64.wrap (1 - (Q : Int))
    rw [w64 (by omega) (by omega)]
  · have e : ((k : Int)).toNat - 0 = k := by omega
    rw [e, List.drop_zero, bitsN_take _ _ _ (by omega), of2F_bits _ _ hk]
  · have e : ((k : Int)).toNat = k := by omega
    rw [e]
    have : (bitsN (2 * (u64 a % 2 ^ k) + u64 c % 2) (k + 1)).getD k 0 = (((2 * (u64 a % 2 ^ k) + u64 c % 2) / 2 ^ k % 2 : Nat) : Int) := by simp [bitsN]
    have e9 : (2 * (u64 a % 2 ^ k) + u64 c % 2) / 2 ^ k % 2 = (2 * (u64 a % 2 ^ k) + u64 c % 2) / 2 ^ k := Nat.mod_eq_of_lt (Nat.lt_of_le_of_lt x1 (by omega))
    rw [this, e9]
  · rw [bitsN_len]
    have e : k + 1 - Int.toNat 1 = k := by show k + 1 - 1 = k; omega
    have e1 : Int.toNat 1 = 1 := rfl
    rw [e, e1, bitsN_drop _ _ _ (by omega), bitsN_take _ _ _ (by omega), of2F_bits _ _ hk]
    have e2 : (2 ^ k * (u64 c % 2) + u64 a % 2 ^ k) / 2 ^ 1 = (2 ^ k * (u64 c % 2) + u64 a % 2 ^ k) / 2 := rfl
    rw [e2]
    have e10 : (2 ^ k * (u64 c % 2) + u64 a % 2 ^ k) / 2 % 2 ^ k = (2 ^ k * (u64 c % 2) + u64 a % 2 ^ k) / 2 := Nat.mod_eq_of_lt (Nat.div_lt_of_lt_mul (by omega))
    rw [e10]
  · rw [bitsN_succ]; rfl

def baS : PSpec := ⟨[gi, gi, gi, gi], fun (a, b, c, n, _) => (none, .cell (bv true), [])⟩
theorem ba_ok : Good Try.prog 5 baS.spec := by
  have hT := tab_ok (fs := [(16, bitsS.spec), (17, digS.spec), (18, of2S.spec), (21, adderS.spec), (22, invS.spec), (23, addS.spec), (24, subS.spec), (25, rolS.spec), (26, rorS.spec), (27, cloneS.spec)]) tree_ok
  have hP : SpecsOk Try.prog (tab tree [(16, bitsS.spec), (17, digS.spec), (18, of2S.spec), (21, adderS.spec), (22, invS.spec), (23, addS.spec), (24, subS.spec), (25, rolS.spec), (26, rorS.spec), (27, cloneS.spec)]) :=
    specs_cons bits_ok (specs_cons dig_ok (specs_cons of2_ok (specs_cons adder_ok (specs_cons inv_ok (specs_cons add_ok (specs_cons sub_ok (specs_cons rol_ok (specs_cons ror_ok (specs_cons clone_ok specs_nil)))))))))
  refine baS.good (fn := Try.f5) hT hP Try.func5 (by kernel_rfl) rfl fun (a b c n : Int) hp => ?_
  clear hp
  obtain ⟨k, hk, la, lb, f1, f2, f3, f4, f5, f6, f7, f8, l1, l2⟩ := ba_facts a b c n
  have li : (invF (dig2F b n)).length = k := by unfold invF; rw [List.length_map, lb]
  have g1 := beq_iff_eq.2 f1
  have g2 := beq_iff_eq.2 f2
  have g3 := beq_iff_eq.2 f3
  have g4 := beq_iff_eq.2 f4
  have g5 := beq_iff_eq.2 f5
  have g6 := beq_iff_eq.2 f6
  have g7 := beq_iff_eq.2 f7
  have g8 := beq_iff_eq.2 f8
  repeat' first
    | (refine Go.mk ?_; conv => whnf)
    | refine Need.go ?_ ?_
    | refine Br.go (fun _ => ?_) (fun _ => ?_)
    | refine draw_go hT hP mixed ?_
  · show (dig2F a n).length ≤ (dig2F b n).length ∧ (dig2F b n).length ≤ _
    omega
  · show (dig2F b n).length ≤ _
    omega
  · show (dig2F a n).length ≤ (invF (dig2F b n)).length ∧ (invF (dig2F b n)).length ≤ _
    omega
  · show (1 + (dig2F a n).length) * 8 ≤ _
    omega
  · show (dig2F a n).length ≤ _
    omega
  · show ((dig2F a n).length + 1) * 8 ≤ _
    omega
  · exact Nat.le_trans (Nat.le_of_eq l1) (by omega)
  · exact Nat.le_trans (Nat.le_of_eq l2) (by omega)
  · show 0 ≤ ((dig2F a n).length : Int) ∧ ((dig2F a n).length : Int) ≤ (([land .i64 c 1] ++ dig2F a n).length : Int)
    simp only [List.length_append, List.length_singleton]
    omega
  · show (List.take ((((dig2F a n).length : Int)).toNat - 0) (List.drop 0 ([land .i64 c 1] ++ dig2F a n))).length ≤ _
    simp only [List.length_take, List.length_drop, List.length_append, List.length_singleton]
    omega
  · show 0 ≤ ((dig2F a n).length : Int) ∧ ((dig2F a n).length : Int) < (([land .i64 c 1] ++ dig2F a n).length : Int)
    simp only [List.length_append, List.length_singleton]
    omega
  · show (((dig2F a n).length : Int)).toNat < ([land .i64 c 1] ++ dig2F a n).length
    simp only [List.length_append, List.length_singleton]
    omega
  · show (0 : Int) ≤ 1 ∧ (1 : Int) ≤ ((dig2F a n ++ [land .i64 c 1]).length : Int)
    simp only [List.length_append, List.length_singleton]
    omega
  · show (List.take ((dig2F a n ++ [land .i64 c 1]).length - Int.toNat 1) (List.drop (Int.toNat 1) (dig2F a n ++ [land .i64 c 1]))).length ≤ _
    simp only [List.length_take, List.length_drop, List.length_append, List.length_singleton]
    omega
  · show (0 : Int) ≤ 0 ∧ (0 : Int) < ((dig2F a n ++ [land .i64 c 1]).length : Int)
    simp only [List.length_append, List.length_singleton]
    omega
  · show Int.toNat 0 < (dig2F a n ++ [land .i64 c 1]).length
    simp only [List.length_append, List.length_singleton]
    show 0 < _
    omega
  · exact .mk [] [] _ rfl rfl rfl rfl rfl rfl (imm_bool g8)
  · rename_i h; exact Bool.noConfusion (g7.symm.trans h)
  · rename_i h; exact Bool.noConfusion (g6.symm.trans h)
  · rename_i h; exact Bool.noConfusion (g5.symm.trans h)
  · rename_i h; exact Bool.noConfusion (g4.symm.trans h)
  · rename_i h; exact Bool.noConfusion (g3.symm.trans h)
  · rename_i h; exact Bool.noConfusion (g2.symm.trans h)
  · rename_i h; exact Bool.noConfusion (g1.symm.trans h)

end Go.Proofs.Ytjggjnjmnmdgaaa
