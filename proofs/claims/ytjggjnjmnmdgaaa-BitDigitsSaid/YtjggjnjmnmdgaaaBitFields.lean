/- bakelaw1.BitFields answers true, whatever four numbers it is given. -/
import Derived.Test.YtjggjnjmnmdgaaaRefLaw
namespace Go.Proofs.Ytjggjnjmnmdgaaa
open Go.Fw
set_option linter.unusedVariables false
set_option linter.unusedSimpArgs false
set_option maxRecDepth 100000

def fromF (a : Int) : Int := imax 0 (imin a 62)
def toF (a s : Int) : Int := IntKind.i64.wrap (fromF a + imax 0 (imin s (IntKind.i64.wrap (62 - fromF a))))
/-- where the field lies -/
theorem place_eq (a s : Int) : ∃ f z : Nat, f + z ≤ 62 ∧ fromF a = f ∧ toF a s = ((f + z : Nat) : Int) ∧ placeF a s = ((f : Int), (z : Int)) := by
  have h1 : fromF a = max 0 (min a 62) := by simp only [fromF, imax_eq, imin_eq]
  have hw : widthF a = fromF a := rfl
  refine ⟨(fromF a).toNat, (max 0 (min s (62 - fromF a))).toNat, by omega, by omega, ?_, ?_⟩
  · simp only [toF, imax_eq, imin_eq]
    rw [w64 (x := 62 - fromF a) (by omega) (by omega), w64 (by omega) (by omega)]
    omega
  · simp only [placeF, imax_eq, imin_eq, hw]
    rw [w64 (x := 62 - fromF a) (by omega) (by omega)]
    apply Prod.ext
    · show fromF a = _
      omega
    · show max 0 (min s (62 - fromF a)) = _
      omega
theorem dig2_nat (v : Int) (z : Nat) (h : z ≤ 62) : dig2F v z = bitsN (u64 v) z := by
  have e : limitF z 0 62 = z := by unfold limitF; rw [if_neg (by omega), if_neg (by omega)]
  unfold dig2F
  rw [e]
  exact digF_eq v z h
theorem getF_eq {n a s : Int} {f z : Nat} (hp : placeF a s = ((f : Int), (z : Int))) (h : f + z ≤ 62) : getF n a s = ((u64 n % 2 ^ 62 / 2 ^ f % 2 ^ z : Nat) : Int) := by
  have hl : lowF n 62 = ((u64 n % 2 ^ 62 : Nat) : Int) := lowF_eq n 62
  have h6 : u64 n % 2 ^ 62 < 2 ^ 62 := Nat.mod_lt _ (by omega)
  unfold getF
  rw [hp, hl]
  simp only
  rw [shr_eq (by omega), lowF_eq, widthF_id (by omega) (by omega), u64_nat (Nat.lt_of_le_of_lt (Nat.div_le_self _ _) (by omega))]
  simp
/-- what the field reads -/
theorem field_get (n a s : Int) : getF n a s = of2F (((dig2F n 62).drop (fromF a).toNat).take ((toF a s).toNat - (fromF a).toNat)) := by
  obtain ⟨f, z, h, h1, h2, h3⟩ := place_eq a s
  rw [getF_eq h3 h, h1, h2, dig2_62]
  have e1 : ((f : Int)).toNat = f := by omega
  have e2 : (((f + z : Nat) : Int)).toNat - ((f : Int)).toNat = z := by omega
  rw [e2, e1, bitsN_drop _ _ _ (by omega), bitsN_take _ _ _ (by omega), of2F_bits _ _ (by omega)]
  congr 1
  have e : (2 : Nat) ^ 62 = 2 ^ f * 2 ^ (62 - f) := by rw [← Nat.pow_add]; congr 1; omega
  rw [e, Nat.mod_mul_right_div_self]
  have e' : (2 : Nat) ^ (62 - f) = 2 ^ z * 2 ^ (62 - f - z) := by rw [← Nat.pow_add]; congr 1; omega
  rw [e', Nat.mod_mul_right_mod]
theorem over_len {α : Type} : ∀ {l l' : List α}, l.length = l'.length → over l l' 0 = l' := by
  intro l l' h
  rw [over_eq]
  simp [h]
/-- the digits with the field laid in -/
def cpF (n a s v : Int) : List Int :=
  (dig2F n 62).take (fromF a).toNat ++ over (((dig2F n 62).drop (fromF a).toNat).take ((toF a s).toNat - (fromF a).toNat)) (dig2F v (IntKind.i64.wrap (toF a s - fromF a))) 0 ++
    (dig2F n 62).drop ((fromF a).toNat + ((toF a s).toNat - (fromF a).toNat))
theorem put_bits {N V f z : Nat} (hN : N < 2 ^ 62) (hV : V < 2 ^ z) (h : f + z ≤ 62) :
    (N ^^^ (N &&& (2 ^ z - 1) * 2 ^ f)) ||| V * 2 ^ f = 2 ^ f * (2 ^ z * (N / 2 ^ (f + z)) + V) + N % 2 ^ f := by
  apply Nat.eq_of_testBit_eq
  intro i
  rw [Nat.testBit_two_pow_mul_add _ (Nat.mod_lt _ (Nat.pow_pos (by omega))), Nat.testBit_or, xor_and_testBit, Nat.testBit_mul_two_pow, Nat.testBit_mul_two_pow, Nat.testBit_two_pow_sub_one]
  by_cases h1 : i < f
  · rw [if_pos h1, Nat.testBit_mod_two_pow]
    have e : decide (f ≤ i) = false := by simp; omega
    simp [e, h1]
  · rw [if_neg h1, Nat.testBit_two_pow_mul_add _ hV]
    have e : decide (f ≤ i) = true := by simp; omega
    by_cases h2 : i - f < z
    · simp [e, h2]
    · rw [if_neg h2, Nat.testBit_div_two_pow]
      have e3 : V.testBit (i - f) = false := Nat.testBit_lt_two_pow (Nat.lt_of_lt_of_le hV (pow_le (by omega)))
      have e4 : i - f - z + (f + z) = i := by omega
      have e5 : f + z + (i - f - z) = i := by omega
      simp [e, h2, e3, e4, e5]
theorem cpF_eq {n a s v : Int} {f z : Nat} (h : f + z ≤ 62) (h1 : fromF a = f) (h2 : toF a s = ((f + z : Nat) : Int)) :
    cpF n a s v = bitsN (2 ^ f * (2 ^ z * (u64 n % 2 ^ 62 / 2 ^ (f + z)) + u64 v % 2 ^ z) + u64 n % 2 ^ 62 % 2 ^ f) 62 := by
  have e0 : dig2F n 62 = bitsN (u64 n % 2 ^ 62) 62 := by rw [dig2_62]; exact bitsN_mod (by simp)
  have e1 : ((f : Int)).toNat = f := by omega
  have e2 : (((f + z : Nat) : Int)).toNat - ((f : Int)).toNat = z := by omega
  have e3 : IntKind.i64.wrap (((f + z : Nat) : Int) - (f : Int)) = (z : Int) := by rw [w64 (by omega) (by omega)]; omega
  unfold cpF
  rw [h1, h2, e2, e1, e3, e0]
  generalize u64 n % 2 ^ 62 = N
  rw [bitsN_drop _ _ _ (by omega), bitsN_take _ _ _ (by omega), bitsN_take _ _ _ (by omega), bitsN_drop _ _ _ (by omega), dig2_nat v z (by omega), over_len (by rw [bitsN_len, bitsN_len])]
  have e62 : 62 = f + (z + (62 - (f + z))) := by omega
  have hf : 0 < 2 ^ f := Nat.pow_pos (by omega)
  have hz : 0 < 2 ^ z := Nat.pow_pos (by omega)
  conv => rhs; rw [e62]
  rw [bitsN_add, bitsN_add, List.append_assoc]
  have d1 : (2 ^ f * (2 ^ z * (N / 2 ^ (f + z)) + u64 v % 2 ^ z) + N % 2 ^ f) / 2 ^ f = 2 ^ z * (N / 2 ^ (f + z)) + u64 v % 2 ^ z := by
    rw [Nat.mul_add_div hf, Nat.div_eq_of_lt (Nat.mod_lt _ hf), Nat.add_zero]
  have d2 : (2 ^ z * (N / 2 ^ (f + z)) + u64 v % 2 ^ z) / 2 ^ z = N / 2 ^ (f + z) := by
    rw [Nat.mul_add_div hz, Nat.div_eq_of_lt (Nat.mod_lt _ hz), Nat.add_zero]
  rw [d1, d2]
  congr 1
  · exact bitsN_mod (by rw [Nat.mul_add_mod, Nat.mod_mod])
  · congr 1
    exact bitsN_mod (by rw [Nat.mul_add_mod, Nat.mod_mod])
theorem cpF_len (n a s v : Int) : (cpF n a s v).length = 62 := by
  obtain ⟨f, z, h, h1, h2, h3⟩ := place_eq a s
  rw [cpF_eq h h1 h2, bitsN_len]
theorem field_put (n a s v : Int) : putF n a s v = of2F (cpF n a s v) := by
  obtain ⟨f, z, h, h1, h2, h3⟩ := place_eq a s
  have hN : u64 n % 2 ^ 62 < 2 ^ 62 := Nat.mod_lt _ (by omega)
  have hz : 2 ^ f * 2 ^ z ≤ 2 ^ 62 := by rw [← Nat.pow_add]; exact pow_le h
  have hz0 : 0 < 2 ^ z := Nat.pow_pos (by omega)
  have hf0 : 0 < 2 ^ f := Nat.pow_pos (by omega)
  have hV : u64 v % 2 ^ z < 2 ^ z := Nat.mod_lt _ hz0
  have hl : lowF n 62 = ((u64 n % 2 ^ 62 : Nat) : Int) := lowF_eq n 62
  have hv : lowF v z = ((u64 v % 2 ^ z : Nat) : Int) := by rw [lowF_eq, widthF_id (by omega) (by omega)]; simp
  have b1 : (2 ^ z - 1) * 2 ^ f < 2 ^ 63 := by
    have : (2 ^ z - 1) * 2 ^ f ≤ 2 ^ z * 2 ^ f := Nat.mul_le_mul_right _ (by omega)
    rw [Nat.mul_comm (2 ^ z)] at this
    omega
  have b2 : u64 v % 2 ^ z * 2 ^ f < 2 ^ 63 := by
    have : u64 v % 2 ^ z * 2 ^ f ≤ 2 ^ z * 2 ^ f := Nat.mul_le_mul_right _ (by omega)
    rw [Nat.mul_comm (2 ^ z)] at this
    omega
  have key := put_bits hN hV h
  have b3 : 2 ^ f * (2 ^ z * (u64 n % 2 ^ 62 / 2 ^ (f + z)) + u64 v % 2 ^ z) + u64 n % 2 ^ 62 % 2 ^ f < 2 ^ 62 := by
    rw [← key]
    refine Nat.or_lt_two_pow (Nat.xor_lt_two_pow hN (Nat.lt_of_le_of_lt Nat.and_le_left hN)) ?_
    have : u64 v % 2 ^ z * 2 ^ f < 2 ^ z * 2 ^ f := Nat.mul_lt_mul_of_pos_right hV hf0
    rw [Nat.mul_comm (2 ^ z)] at this
    omega
  rw [cpF_eq h h1 h2, of2F_bits _ _ (by omega), Nat.mod_eq_of_lt b3, ← key]
  unfold putF
  rw [h3]
  simp only
  rw [hl, hv, mask_eq (by omega), shl_eq b1 (by omega), shl_eq b2 (by omega)]
  have u1 : u64 ((u64 n % 2 ^ 62 : Nat) : Int) = u64 n % 2 ^ 62 := u64_nat (by omega)
  have u2 : u64 (((2 ^ z - 1) * 2 ^ f : Nat) : Int) = (2 ^ z - 1) * 2 ^ f := u64_nat (by omega)
  have u3 : u64 ((u64 v % 2 ^ z * 2 ^ f : Nat) : Int) = u64 v % 2 ^ z * 2 ^ f := u64_nat (by omega)
  rw [landNot_nat _ _ (by rw [u1]; omega), u1, u2]
  have u4 : u64 ((u64 n % 2 ^ 62 ^^^ u64 n % 2 ^ 62 &&& (2 ^ z - 1) * 2 ^ f : Nat) : Int) = u64 n % 2 ^ 62 ^^^ (u64 n % 2 ^ 62 &&& (2 ^ z - 1) * 2 ^ f) := u64_nat (by
    have : u64 n % 2 ^ 62 ^^^ (u64 n % 2 ^ 62 &&& (2 ^ z - 1) * 2 ^ f) < 2 ^ 62 := Nat.xor_lt_two_pow hN (Nat.lt_of_le_of_lt Nat.and_le_left hN)
    omega)
  rw [lor_nat _ _ (by rw [u3, u4, key]; omega), u3, u4]

def bfS : PSpec := ⟨[gi, gi, gi, gi], fun (n, a, s, v, _) => (none, .cell (bv true), [])⟩
theorem bf_ok : Good Try.prog 4 bfS.spec := by
  have hT := tab_ok (fs := [(16, bitsS.spec), (17, digS.spec), (18, of2S.spec), (19, getS.spec), (20, putS.spec)]) tree_ok
  have hP : SpecsOk Try.prog (tab tree [(16, bitsS.spec), (17, digS.spec), (18, of2S.spec), (19, getS.spec), (20, putS.spec)]) :=
    specs_cons bits_ok (specs_cons dig_ok (specs_cons of2_ok (specs_cons get_ok (specs_cons put_ok specs_nil))))
  refine bfS.good (fn := Try.f4) hT hP Try.func4 (by kernel_rfl) rfl fun (n a s v : Int) hp => ?_
  have hg := field_get n a s
  obtain ⟨f, z, h, h1, h2, h3⟩ := place_eq a s
  have hlen : (dig2F n 62).length = 62 := by rw [dig2_62, bitsN_len]
  repeat' first
    | (refine Go.mk ?_; conv => whnf)
    | refine Need.go ?_ ?_
    | refine Br.dec (fun _ => ?_) (fun _ => ?_)
    | refine Br.go (fun _ => ?_) (fun _ => ?_)
    | refine draw_go hT hP mixed ?_
  · show 0 ≤ fromF a ∧ fromF a ≤ toF a s ∧ toF a s ≤ (dig2F n 62).length
    omega
  · show (((dig2F n 62).drop (fromF a).toNat).take ((toF a s).toNat - (fromF a).toNat)).length ≤ _
    simp only [List.length_take, List.length_drop]
    omega
  · rename_i hne
    exfalso
    have hne : (getF n a s != of2F (((dig2F n 62).drop (fromF a).toNat).take ((toF a s).toNat - (fromF a).toNat))) = true := hne
    rw [← hg] at hne
    simp at hne
  · show 0 ≤ fromF a ∧ fromF a ≤ toF a s ∧ toF a s ≤ (dig2F n 62).length
    omega
  · show (cpF n a s v).length ≤ _
    rw [cpF_len]
    omega
  · refine .mk [0, 1, 2, 3] [] _ rfl rfl rfl rfl rfl rfl (imm_bool ?_)
    show (putF n a s v == of2F (cpF n a s v)) = true
    rw [field_put]
    simp

end Go.Proofs.Ytjggjnjmnmdgaaa
