/- bakelaw1.BitLows answers true, whatever two numbers it is given. -/
import Derived.Test.YtjggjnjmnmdgaaaRef3
namespace Go.Proofs.Ytjggjnjmnmdgaaa
open Go.Fw
set_option linter.unusedVariables false
set_option linter.unusedSimpArgs false
set_option maxRecDepth 100000

theorem sum_bits : ∀ (k m : Nat), (bitsN m k).sum = ((pop k m : Nat) : Int)
  | 0, m => rfl
  | k + 1, m => by
    rw [bitsN_succ, List.sum_cons, sum_bits k (m / 2)]
    show _ = (((m % 2 + pop k (m / 2) : Nat)) : Int)
    omega
theorem bit_shr (n : Int) (i : Nat) (h : i ≤ 62) : land .i64 (shr .i64 n i) 1 = ((u64 n / 2 ^ i % 2 : Nat) : Int) := by
  have e2 : shr .i64 n i = n / ((2 ^ i : Nat) : Int) := by
    show n.fdiv (2 ^ (min ((i : Int).toNat) 64)) = _
    have : min ((i : Int).toNat) 64 = i := by omega
    rw [this]
    have e2 : (2 : Int) ^ i = ((2 ^ i : Nat) : Int) := by simp
    rw [e2, Int.fdiv_eq_ediv_of_nonneg _ (Int.natCast_nonneg _)]
  rw [land1, e2]
  congr 1
  have hp : 0 < 2 ^ i := Nat.pow_pos (by omega)
  have e : (18446744073709551616 : Int) = ((2 ^ i : Nat) : Int) * ((2 ^ (64 - i) : Nat) : Int) := by
    have : (18446744073709551616 : Nat) = 2 ^ i * 2 ^ (64 - i) := by
      rw [← Nat.pow_add]
      have : i + (64 - i) = 64 := by omega
      rw [this]
    rw [← Int.natCast_mul, ← this]; rfl
  have hn : n = ((u64 n : Nat) : Int) + ((2 ^ i : Nat) : Int) * (((2 ^ (64 - i) : Nat) : Int) * (n / 18446744073709551616)) := by
    rw [← Int.mul_assoc, ← e]
    unfold u64
    omega
  have hd : n / ((2 ^ i : Nat) : Int) = ((u64 n / 2 ^ i : Nat) : Int) + ((2 ^ (64 - i) : Nat) : Int) * (n / 18446744073709551616) := by
    conv => lhs; rw [hn]
    rw [Int.add_mul_ediv_left _ _ (by omega)]
    rfl
  have h2 : (2 ^ (64 - i) : Nat) = 2 * 2 ^ (63 - i) := by rw [← Nat.pow_succ']; congr 1; omega
  have hm : (n / ((2 ^ i : Nat) : Int)) % 2 = ((u64 n / 2 ^ i % 2 : Nat) : Int) := by
    rw [hd, h2]
    have : (((2 * 2 ^ (63 - i) : Nat)) : Int) * (n / 18446744073709551616) = 2 * (((2 ^ (63 - i) : Nat) : Int) * (n / 18446744073709551616)) := by
      rw [Int.natCast_mul, Int.mul_assoc]; rfl
    rw [this]
    omega
  generalize n / ((2 ^ i : Nat) : Int) = q at hm
  have : u64 q % 2 = (q % 2).toNat := by unfold u64; omega
  rw [this, hm]
  omega
theorem turn_bits (n : Int) : ∀ k, k ≤ 62 → turnL n k = of2F (bitsN (u64 n) k).reverse ∧ 0 ≤ turnL n k ∧ turnL n k < 2 ^ k
  | 0, _ => ⟨rfl, Int.le_refl _, by show (0 : Int) < 1; decide⟩
  | k + 1, h => by
    obtain ⟨h1, h2, h3⟩ := turn_bits n k (by omega)
    obtain ⟨m, hm⟩ := Int.eq_ofNat_of_zero_le h2
    have hp : 2 ^ k ≤ 2 ^ 61 := pow_le (by omega)
    have hlt : m < 2 ^ k := by
      have : (2 : Int) ^ k = ((2 ^ k : Nat) : Int) := by simp
      rw [hm, this] at h3; omega
    have hb : u64 n / 2 ^ k % 2 < 2 ^ 1 := Nat.mod_lt _ (by omega)
    have e0 : shl .i64 (m : Int) 1 = ((m * 2 ^ 1 : Nat) : Int) := shl_eq (b := 1) (by omega) (by omega)
    have e1 : m * 2 ^ 1 ||| u64 n / 2 ^ k % 2 = 2 * m + u64 n / 2 ^ k % 2 := by
      have := Nat.two_pow_add_eq_or_of_lt hb m
      rw [Nat.mul_comm _ (2 ^ 1), ← this]
    have e : turnL n (k + 1) = ((2 * m + u64 n / 2 ^ k % 2 : Nat) : Int) := by
      rw [turnL, hm, bit_shr n k (by omega), e0, lor_nat _ _ (by rw [u64_nat (by omega), u64_nat (by omega), e1]; omega), u64_nat (by omega), u64_nat (by omega), e1]
    refine ⟨?_, by rw [e]; omega, ?_⟩
    · have hb1 : bitsN (u64 n / 2 ^ k) 1 = [((u64 n / 2 ^ k % 2 : Nat) : Int)] := by simp [bitsN]
      rw [e, bitsN_add, hb1, List.reverse_append]
      show _ = IntKind.i64.wrap (IntKind.i64.wrap (2 * of2F (bitsN (u64 n) k).reverse) + ((u64 n / 2 ^ k % 2 : Nat) : Int))
      rw [← h1, hm, w64 (x := 2 * (m : Int)) (by omega) (by omega), w64 (by omega) (by omega)]
      omega
    · rw [e]
      have : (2 : Int) ^ (k + 1) = ((2 ^ (k + 1) : Nat) : Int) := by simp
      rw [this, Nat.pow_succ]
      omega
theorem signed_bits (n b : Int) {k : Nat} (hk : k ≤ 62) (hw : widthF b = (k : Int)) (hd : dig2F n b = bitsN (u64 n) k) : signedF n b = signed2F (dig2F n b) := by
  rw [hd]
  unfold signedF signed2F
  rw [hw, low_nat n hk, bitsN_len]
  rcases Nat.eq_zero_or_pos k with rfl | h0
  · simp [Nat.mod_one]
  · obtain ⟨j, rfl⟩ : ∃ j, k = j + 1 := ⟨k - 1, by omega⟩
    have h3 : 2 ^ (j + 1) ≤ 2 ^ 62 := pow_le hk
    have hp : 0 < 2 ^ j := Nat.pow_pos (by omega)
    have e : u64 n % 2 ^ (j + 1) = u64 n % 2 ^ j + 2 ^ j * (u64 n / 2 ^ j % 2) := by rw [Nat.pow_succ, Nat.mod_mul]
    have hr : u64 n % 2 ^ j < 2 ^ j := Nat.mod_lt _ hp
    have ht : u64 n / 2 ^ j % 2 ≤ 1 := by omega
    have e5 : j + 1 - 1 = j := by omega
    have e6 : IntKind.i64.wrap (((j + 1 : Nat) : Int) - 1) = (j : Int) := by rw [w64 (by omega) (by omega)]; omega
    have e7 : (bitsN (u64 n) (j + 1)).getD j 0 = ((u64 n / 2 ^ j % 2 : Nat) : Int) := by simp [bitsN]
    have e8 : shr .i64 ((u64 n % 2 ^ (j + 1) : Nat) : Int) (j : Int) = ((u64 n / 2 ^ j % 2 : Nat) : Int) := by
      rw [shr_eq (by omega), e, Nat.add_comm, Nat.mul_add_div hp, Nat.div_eq_of_lt hr, Nat.add_zero]
    rw [if_pos (show ((j + 1 : Nat) : Int) > 0 by omega), if_neg (show ¬ j + 1 = 0 by omega), e5, e6, e7, e8, bitsN_take _ _ _ (by omega), of2F_bits _ _ (by omega), shl_one hk]
    rw [Nat.pow_succ] at h3
    rcases Nat.mod_two_eq_zero_or_one (u64 n / 2 ^ j) with h1 | h1
    · rw [h1] at e ⊢
      have e9 : shl .i64 ((0 : Nat) : Int) (j : Int) = ((0 * 2 ^ j : Nat) : Int) := shl_eq (by omega) (by omega)
      rw [if_neg (by decide), e9, w64 (by omega) (by omega)]
      omega
    · rw [h1] at e ⊢
      have e9 : shl .i64 ((1 : Nat) : Int) (j : Int) = ((1 * 2 ^ j : Nat) : Int) := shl_eq (by omega) (by omega)
      rw [if_pos (by decide), e9, e, Nat.pow_succ, w64 (by omega) (by omega), w64 (by omega) (by omega)]
      omega

def blS : PSpec := ⟨[gi, gi], fun (n, w, _) => (none, .cell (bv true), [])⟩
theorem bl_ok : Good Try.prog 7 blS.spec := by
  have hT := tab_ok (fs := [(16, bitsS.spec), (17, digS.spec), (18, of2S.spec), (33, lowS.spec), (34, signedS.spec), (35, signed2S.spec), (36, turnS.spec), (37, countS.spec), (27, cloneS.spec), (32, revS.spec)]) tree_ok
  have hP : SpecsOk Try.prog (tab tree [(16, bitsS.spec), (17, digS.spec), (18, of2S.spec), (33, lowS.spec), (34, signedS.spec), (35, signed2S.spec), (36, turnS.spec), (37, countS.spec), (27, cloneS.spec), (32, revS.spec)]) :=
    specs_cons bits_ok (specs_cons dig_ok (specs_cons of2_ok (specs_cons low_ok (specs_cons signed_ok (specs_cons signed2_ok (specs_cons turn_ok (specs_cons count_ok (specs_cons clone_ok (specs_cons rev_ok specs_nil)))))))))
  refine blS.good (fn := Try.f7) hT hP Try.func7 (by kernel_rfl) rfl fun (n w : Int) hp => ?_
  clear hp
  obtain ⟨k, hk, hw, hd⟩ := width_nat w
  have la : (dig2F n w).length = k := by rw [hd, bitsN_len]
  have l62 : (dig2F n 62).length = 62 := by rw [dig2_62, bitsN_len]
  have f1 : lowF n w = of2F (dig2F n w) := by rw [lowF_eq, hw, hd, of2F_bits _ _ hk]; simp
  have f2 : signedF n w = signed2F (dig2F n w) := signed_bits n w hk hw (hd n)
  have f3 : turnL n (widthF w).toNat = of2F (dig2F n w).reverse := by
    rw [hw, hd]
    exact (turn_bits n k hk).1
  have f4 : ((pop 62 (u64 n % 2 ^ 62) : Nat) : Int) = (dig2F n 62).sum := by
    rw [dig2_62, ← sum_bits]
    congr 1
    exact bitsN_mod (by simp)
  repeat' first
    | (refine Go.mk ?_; conv => whnf)
    | refine Need.go ?_ ?_
    | refine Br.dec (fun _ => ?_) (fun _ => ?_)
    | refine Br.go (fun _ => ?_) (fun _ => ?_)
    | refine draw_go hT hP mixed ?_
  · show (dig2F n w).length ≤ _
    omega
  · show (dig2F n w).length ≤ _
    omega
  refine loop_go hT hP (X := Int × Int) (fun (i, c) => mkSt 58 [(0, I n), (1, I w), (5, .cell (.own 0)), (6, .cell (.own 1)), (7, I c), (20, .cell (.own 2)), (21, I ((dig2F n 62).length : Int)), (22, I i)]
      [some (.arr (.int .i64) (dig2F n w)), some (.arr (.int .i64) (dig2F n w).reverse), some (.arr (.int .i64) (dig2F n 62))])
    (fun (i, c) => ∃ m : Nat, i = m ∧ m ≤ 62 ∧ c = ((dig2F n 62).take m).sum) (fun (i, _) => (62 - i).toNat) (0, 0) (Le.mk [] [0, 1, 2] rfl rfl rfl ?_) ?_ fun (i, c) hi => ?_
  rotate_right
  repeat' first
    | (refine Go.mk ?_; conv => whnf)
    | refine Need.go ?_ ?_
    | refine Br.dec (fun _ => ?_) (fun _ => ?_)
    | refine Br.go (fun _ => ?_) (fun _ => ?_)
    | refine draw_go hT hP mixed ?_
  · obtain ⟨m, rfl, hm, rfl⟩ := hi
    omega
  · obtain ⟨m, rfl, hm, rfl⟩ := hi
    omega
  · rename_i hlt
    obtain ⟨m, rfl, hm, rfl⟩ := hi
    have e1 : IntKind.i64.wrap ((m : Int) + 1) = ((m + 1 : Nat) : Int) := by rw [w64 (by omega) (by omega)]; omega
    have hm' : m < 62 := by omega
    have hs : ∀ j, ((dig2F n 62).take j).sum = ((pop j (u64 n) : Nat) : Int) ∨ 62 < j := by
      intro j
      rcases Nat.lt_or_ge 62 j with h | h
      · exact .inr h
      · left
        rw [dig2_62, bitsN_take _ _ _ h, sum_bits]
    have h1 := (hs m).resolve_right (by omega)
    have h2 := (hs (m + 1)).resolve_right (by omega)
    have p1 := pop_le m (u64 n)
    have hget : ((dig2F n 62).take (m + 1)).sum = ((dig2F n 62).take m).sum + (dig2F n 62).getD m 0 := by
      have hlt' : m < (dig2F n 62).length := by omega
      rw [List.take_succ_eq_append_getElem hlt', List.sum_append]
      simp [hlt']
    have p2 := pop_le (m + 1) (u64 n)
    apply Exists.intro (_, _)
    refine And.intro ?_ (And.intro ?_ (Le.mk [] [0, 1, 2] rfl rfl ?hh ?ht))
    case hh => exact rfl
    case ht => repeat' first | exact trivial | exact ⟨rfl, rfl⟩ | refine And.intro ?_ ?_
    · refine ⟨m + 1, e1, by omega, ?_⟩
      show IntKind.i64.wrap (((dig2F n 62).take m).sum + (dig2F n 62).getD m 0) = _
      rw [← hget, h2, w64 (by omega) (by omega)]
    · show (62 - IntKind.i64.wrap ((m : Int) + 1)).toNat < (62 - (m : Int)).toNat
      rw [e1]
      omega
  · show (dig2F n w).length ≤ _
    omega
  · show (dig2F n w).length ≤ _
    omega
  · show (dig2F n w).reverse.length ≤ _
    rw [List.length_reverse]
    omega
  · obtain ⟨m, rfl, hm, rfl⟩ := hi
    refine .mk [] [] _ rfl rfl rfl rfl rfl rfl (imm_bool ?_)
    have e : m = 62 := by omega
    subst e
    have e2 : ((dig2F n 62).take 62).sum = (dig2F n 62).sum := by rw [List.take_of_length_le (by omega)]
    show (((pop 62 (u64 n % 2 ^ 62) : Nat) : Int) == ((dig2F n 62).take 62).sum) = true
    rw [e2, f4]
    simp
  · rename_i h; exact absurd f3 h
  · rename_i h; exact absurd f2 h
  · rename_i h; exact absurd f1 h
  · repeat' first | exact trivial | exact ⟨rfl, rfl⟩ | refine And.intro ?_ ?_
  · exact ⟨0, rfl, by omega, rfl⟩

end Go.Proofs.Ytjggjnjmnmdgaaa
