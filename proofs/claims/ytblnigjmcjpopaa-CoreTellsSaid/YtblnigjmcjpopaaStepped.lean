/- The steps of a processor in the reference: the whole step. -/
import Derived.Test.YtblnigjmcjpopaaStepRef
namespace Go.Proofs.Ytblnigjmcjpopaa
open Go.Fw
set_option linter.unusedVariables false
set_option linter.unusedSimpArgs false
set_option maxRecDepth 100000

theorem tmod_fitB (r : List Int) (n : Nat) (k : Int) : ((fitR r).getD n 0).tmod k = (fitR r).getD n 0 % k := Int.tmod_eq_emod_of_nonneg (fitB_in r n).1
theorem i4B : Int.toNat 4 = 4 := rfl
theorem set4_self (r : List Int) : (fitR r).set 4 ((fitR r).getD 4 0) = fitR r := rfl
theorem sf3 {P A : Int} (h : 0 ≤ P ∧ P < 256) : rfV P (A % 256) (-1) = nzV P (A % 256) := rf_nz h (by omega)
theorem sf4 {P A B : Int} (h : 0 ≤ P ∧ P < 256) : rfV P ((A % 256 + B % 256 + P % 2) % 256) ((A % 256 + B % 256 + P % 2) / 256) = resV P ((A % 256 + B % 256 + P % 2) % 256) ((A % 256 + B % 256 + P % 2) / 256) := rf_res h (by omega) (by omega)
theorem borV_bit (x : Int) : (1 - borV x = 0 ∨ 1 - borV x = 1) := by unfold borV; split <;> omega
theorem sf5 {P A B x : Int} (h : 0 ≤ P ∧ P < 256) : rfV P ((A - B - (1 - P % 2)) % 256) (1 - borV x) = resV P ((A - B - (1 - P % 2)) % 256) (1 - borV x) := rf_res h (by omega) (borV_bit x)
theorem sf6 {P A B x : Int} (h : 0 ≤ P ∧ P < 256) : rfV P ((A - B) % 256) (1 - borV x) = flagV (nzV P ((A - B) % 256)) 1 (decide (borV x = 0)) := by
  rw [rf_res h (by omega) (borV_bit x), resV]
  congr 1
  unfold borV
  split <;> decide
theorem bytesNat (x : Int) (h : 0 ≤ x ∧ x < 256) : u64 x < 256 := by unfold u64; omega
theorem land_byte {A B : Int} : 0 ≤ land .i64 (A % 256) (B % 256) ∧ land .i64 (A % 256) (B % 256) < 256 := by
  have h := bytesNat (A % 256) (by omega)
  have := Nat.and_le_left (n := u64 (A % 256)) (m := u64 (B % 256))
  rw [land_nat _ _ (by omega)]
  omega
theorem lor_byte {A B : Int} : 0 ≤ lor .i64 (A % 256) (B % 256) ∧ lor .i64 (A % 256) (B % 256) < 256 := by
  have h1 := bytesNat (A % 256) (by omega)
  have h2 := bytesNat (B % 256) (by omega)
  have := Nat.or_lt_two_pow (n := 8) h1 h2
  rw [lor_nat _ _ (by omega)]
  omega
theorem lxor_byte {A B : Int} : 0 ≤ lxor .i64 (A % 256) (B % 256) ∧ lxor .i64 (A % 256) (B % 256) < 256 := by
  have h1 := bytesNat (A % 256) (by omega)
  have h2 := bytesNat (B % 256) (by omega)
  have h3 := Nat.xor_lt_two_pow (n := 8) h1 h2
  have e : lxor .i64 (A % 256) (B % 256) = ((u64 (A % 256) ^^^ u64 (B % 256) : Nat) : Int) := by
    show IntKind.i64.wrap (((BitVec.ofInt 64 (A % 256) ^^^ BitVec.ofInt 64 (B % 256)).toNat : Nat) : Int) = _
    rw [BitVec.toNat_xor, ofInt_toNat, ofInt_toNat]
    exact w64 (by omega) (by omega)
  rw [e]
  omega
theorem sfl {P A B : Int} (h : 0 ≤ P ∧ P < 256) : rfV P (land .i64 (A % 256) (B % 256)) (-1) = nzV P (land .i64 (A % 256) (B % 256)) := rf_nz h land_byte
theorem sfo {P A B : Int} (h : 0 ≤ P ∧ P < 256) : rfV P (lor .i64 (A % 256) (B % 256)) (-1) = nzV P (lor .i64 (A % 256) (B % 256)) := rf_nz h lor_byte
theorem sfx {P A B : Int} (h : 0 ≤ P ∧ P < 256) : rfV P (lxor .i64 (A % 256) (B % 256)) (-1) = nzV P (lxor .i64 (A % 256) (B % 256)) := rf_nz h lxor_byte
theorem sfs {P A : Int} (h : 0 ≤ P ∧ P < 256) : rfV P (A % 256 * 2 % 256) (A % 256 / 128) = resV P (A % 256 * 2 % 256) (A % 256 / 128) := rf_res h (by omega) (by omega)
theorem sfr {P A : Int} (h : 0 ≤ P ∧ P < 256) : rfV P (A % 256 * 2 % 256 + P % 2) (A % 256 / 128) = resV P (A % 256 * 2 % 256 + P % 2) (A % 256 / 128) := rf_res h (by omega) (by omega)
theorem sft {P A : Int} (h : 0 ≤ P ∧ P < 256) : rfV P (A % 256 / 2) (A % 256 % 2) = resV P (A % 256 / 2) (A % 256 % 2) := rf_res h (by omega) (by omega)
theorem sfu {P A : Int} (h : 0 ≤ P ∧ P < 256) : rfV P (A % 256 / 2 + 128 * (P % 2)) (A % 256 % 2) = resV P (A % 256 / 2 + 128 * (P % 2)) (A % 256 % 2) := rf_res h (by omega) (by omega)
theorem sft' {P A : Int} (h : 0 ≤ P ∧ P < 256) : rfV P (A % 256 / 2) (A % 2) = resV P (A % 256 / 2) (A % 2) := rf_res h (by omega) (by omega)
theorem sfu' {P A : Int} (h : 0 ≤ P ∧ P < 256) : rfV P (A % 256 / 2 + 128 * (P % 2)) (A % 2) = resV P (A % 256 / 2 + 128 * (P % 2)) (A % 2) := rf_res h (by omega) (by omega)
theorem gd30 {α} (a b c d : α) : [a, b, c].getD 0 d = a := rfl
theorem gd31 {α} (a b c d : α) : [a, b, c].getD 1 d = b := rfl
theorem gd32 {α} (a b c d : α) : [a, b, c].getD 2 d = c := rfl
theorem gd20 {α} (a b d : α) : [a, b].getD 0 d = a := rfl
theorem gd21 {α} (a b d : α) : [a, b].getD 1 d = b := rfl
theorem fit_fit (r : List Int) : fitR (fitR r) = fitR r := by simp [fitR]
theorem fit_set4 {r : List Int} {v : Int} (h : 0 ≤ v ∧ v < 256) : fitR ((fitR r).set 4 v) = (fitR r).set 4 v := by
  simp [fitR]; omega
theorem set_self (l : List Int) (n : Nat) : l.set n (l.getD n 0) = l := by
  apply List.ext_getElem?
  intro i
  rw [List.getElem?_set, List.getD_eq_getElem?_getD]
  by_cases h : n = i
  · subst h; by_cases h2 : n < l.length <;> simp [h2]
  · simp [h]
theorem set4_set (l : List Int) (n : Nat) (x : Int) (h : n ≠ 4) : (l.set 4 x).set n (l.getD n 0) = l.set 4 x := by
  rw [List.set_comm _ _ (Ne.symm h), set_self]
theorem getset_mod {F : List Int} {t i : Nat} {X Y m : Int} (h : X % m = Y % m) : (F.set t X).getD i 0 % m = (F.set t Y).getD i 0 % m := by
  rw [List.getD_eq_getElem?_getD, List.getD_eq_getElem?_getD, List.getElem?_set, List.getElem?_set]
  by_cases h1 : t = i
  · rw [if_pos h1, if_pos h1]
    by_cases h2 : t < F.length
    · rw [if_pos h2, if_pos h2]; exact h
    · rw [if_neg h2, if_neg h2]
  · rw [if_neg h1, if_neg h1]
theorem getset_ne {F : List Int} {t i : Nat} {X Y : Int} (h : t ≠ i) : (F.set t X).getD i 0 = (F.set t Y).getD i 0 := by
  rw [List.getD_eq_getElem?_getD, List.getD_eq_getElem?_getD, List.getElem?_set, List.getElem?_set, if_neg h, if_neg h]
theorem fit_setE {F : List Int} {t : Nat} {X Y : Int} (h : X % 65536 = Y % 65536) : fitR (F.set t X) = fitR (F.set t Y) := by
  have h2 : X % 256 = Y % 256 := by omega
  simp only [fitR, getset_mod (F := F) (t := t) h, getset_mod (F := F) (t := t) h2]
theorem fit_setB {F : List Int} {t : Int} {X Y : Int} (ht : okT t) (hw : wideB t = false) (h : X % 256 = Y % 256) : fitR (F.set t.toNat X) = fitR (F.set t.toNat Y) := by
  have h7 : t.toNat ≠ 7 ∧ t.toNat ≠ 8 := by
    unfold wideB at hw; unfold okT at ht
    have := of_decide_eq_false hw
    omega
  simp only [fitR, getset_mod (F := F) (t := t.toNat) h, getset_ne (F := F) (X := X) (Y := Y) h7.1, getset_ne (F := F) (X := X) (Y := Y) h7.2]
theorem landNot_byte {x y : Int} (hx : 0 ≤ x ∧ x < 256) : 0 ≤ landNot .i64 x y ∧ landNot .i64 x y < 256 := by
  have h := bytesNat x hx
  have h2 := Nat.and_le_left (n := u64 x) (m := u64 y)
  have h3 := Nat.xor_lt_two_pow (n := 8) h (show u64 x &&& u64 y < 2 ^ 8 by omega)
  rw [landNot_nat _ _ (by omega)]
  omega
theorem lor_b {x y : Int} (hx : 0 ≤ x ∧ x < 256) (hy : 0 ≤ y ∧ y < 256) : 0 ≤ lor .i64 x y ∧ lor .i64 x y < 256 := by
  have h1 := bytesNat x hx
  have h2 := bytesNat y hy
  have := Nat.or_lt_two_pow (n := 8) h1 h2
  rw [lor_nat _ _ (by omega)]
  omega
theorem flagV_byte {p f : Int} {on : Bool} (hp : 0 ≤ p ∧ p < 256) (hf : 0 ≤ f ∧ f < 256) : 0 ≤ flagV p f on ∧ flagV p f on < 256 := by
  cases on
  · exact landNot_byte hp
  · exact lor_b (landNot_byte hp) hf
theorem nzV_byte {p n : Int} (hp : 0 ≤ p ∧ p < 256) : 0 ≤ nzV p n ∧ nzV p n < 256 := flagV_byte (flagV_byte hp (by omega)) (by omega)
theorem u64_of {a : Int} (h : 0 ≤ a ∧ a < 256) : ((u64 a : Nat) : Int) = a := by unfold u64; omega
theorem flagV_on {p f : Int} (hp : 0 ≤ p ∧ p < 256) (hf : 0 ≤ f ∧ f < 256) : flagV p f true = lor .i64 p f := by
  have h1 := bytesNat p hp
  have h2 := bytesNat f hf
  have h3 := Nat.or_lt_two_pow (n := 8) h1 h2
  have hb := landNot_byte (y := f) hp
  have h4 := bytesNat _ hb
  have h5 := Nat.or_lt_two_pow (n := 8) h4 h2
  show lor .i64 (landNot .i64 p f) f = lor .i64 p f
  rw [lor_nat _ _ (by omega), lor_nat _ _ (by omega)]
  have e : u64 (landNot .i64 p f) = u64 p ^^^ (u64 p &&& u64 f) := by
    have := u64_of hb
    have e2 := landNot_nat p f (by omega)
    omega
  rw [e]
  congr 1
  apply Nat.eq_of_testBit_eq
  intro i
  simp only [Nat.testBit_or, Nat.testBit_xor, Nat.testBit_and]
  cases (u64 p).testBit i <;> cases (u64 f).testBit i <;> rfl
theorem land_pos {P n : Int} (h : 0 ≤ P ∧ P < 256) : decide (0 < land .i64 P (n % 256)) = (land .i64 P (n % 256) != 0) := by
  have hb := land_byte (A := P) (B := n)
  rw [show P % 256 = P by omega] at hb
  generalize land .i64 P (n % 256) = z at *
  by_cases h0 : z = 0
  · subst h0; rfl
  · have : 0 < z := by omega
    simp [this, h0]
set_option maxHeartbeats 8000000 in
theorem stepped_ok : Good Try.prog 83 doS.spec := by
  have hT := tab_ok (fs := [(77, fitS.spec), (95, limitS.spec), (145, rflagsS.spec), (146, sumsS.spec), (147, turnedS.spec), (82, wideS.spec), (76, modS.spec)]) tree_ok
  have hP : SpecsOk Try.prog (tab tree [(77, fitS.spec), (95, limitS.spec), (145, rflagsS.spec), (146, sumsS.spec), (147, turnedS.spec), (82, wideS.spec), (76, modS.spec)]) := specs_cons rFit_ok (specs_cons limit_ok (specs_cons rflags_ok (specs_cons sums_ok (specs_cons turned_ok (specs_cons rWide_ok (specs_cons mod_ok specs_nil))))))
  refine doS.good (fn := Try.f83) hT hP Try.func83 (by kernel_rfl) rfl fun (s : Stp) (r : List Int) hp => ?_
  obtain ⟨d, to, fr, n⟩ := s
  have h9 : r.length = 9 := hp _ rfl
  have hl : (fitR r).length = 9 := rfl
  have ht : okT (limF to 0 8) := by rw [lim_clamp]; exact clamp_in to
  have hf : okT (limF fr 0 8) := by rw [lim_clamp]; exact clamp_in fr
  have ht1 := okT_nat ht
  have hf1 := okT_nat hf
  have ht2 := okT_lt ht
  have hf2 := okT_lt hf
  clear hp
  repeat' first
    | (refine Go.mk ?_; conv => whnf)
    | refine Need.go ?_ ?_
    | refine NilG.go (fun _ => ?_) (fun _ => ?_)
    | refine Br.dec (fun _ => ?_) (fun _ => ?_)
    | refine Br.go (fun _ => ?_) (fun _ => ?_)
    | refine draw_go hT hP mixed ?_
    | refine round_go hT hP ?_
  all_goals first
    | exact of_decide_eq_true rfl
    | exact h9
    | exact ht1
    | exact hf1
    | exact ht2
    | exact hf2
    | exact rfl
    | skip
  all_goals (try refine .mk [] [] _ rfl rfl rfl rfl rfl rfl (tupRB ?_ ?_))
  all_goals clear hT hP
  all_goals (dsimp only at *)
  all_goals (try (simp only [List.length_set, hl]; done))
  all_goals (try (rename_i h; simp [doE, h]; done))
  all_goals (try simp only [lim_clamp] at *)
  all_goals (try simp only [tmod_fitB, i4B, set4_self])
  all_goals
    have bA := fitB_in r (clampR to).toNat
    have bB := fitB_in r (clampR fr).toNat
    have bP := fit_4 r
    have ht2 := okT_lt ht
    clear ht1 hf1 hf2
    try subst_vars
  all_goals (try (rename_i h; exact absurd h (by decide)))
  all_goals (try exact ⟨by omega, by omega, by unfold bitC; omega⟩)
  all_goals (try exact ⟨by omega, by unfold bitC; omega⟩)
  all_goals (try exact (fit_set4 (nzV_byte bP)).symm)
  all_goals (try simp [-List.getD_eq_getElem?_getD, gd30, gd31, gd32, gd20, gd21, doR, stepX, binF, shF, incF, incN, logV, sumN, sumC, tnN, tnC, doE, aV, cV, sf3 bP, sf4 bP, sf5 bP, sf6 bP, sfl bP, sfo bP, sfx bP, sfs bP, sfr bP, sft bP, sfu bP, sft' bP, sfu' bP, set4_self, w_0, w_1, w_2, w_8])
  all_goals (try exact (fit_set4 (nzV_byte bP)).symm)
  all_goals (try (rw [fit_set4 (flagV_byte bP (by omega)), flagV_on bP (by omega)]; done))
  all_goals (try (rw [fit_set4 (flagV_byte bP (by omega))]; rfl))
  all_goals (try (simp only [w64e, tdivE, tmodE]; exact fit_setE (by omega)))
  · have h4 : clampR to = 4 := by assumption
    rw [h4]
    exact congrArg fitR (set_set4 _ _ _)
  · have h4 : ¬clampR to = 4 := by assumption
    rw [set4_set _ _ _ (by unfold okT at ht; omega)]
  · have hw : wideB (clampR to) = false := by simp_all
    rw [w64 (by omega) (by omega)]
    simp only [hw, Bool.false_eq_true, if_false, cond_false]
    exact fit_setB ht hw (by omega)
  · have hw : wideB (clampR to) = true := by simp_all
    rw [w64 (by omega) (by omega)]
    simp only [hw, if_true, cond_true]
    exact fit_setE (by omega)
  · have hw : wideB (clampR to) = false := by simp_all
    rw [show IntKind.i64.wrap (-1) = -1 by decide, w64 (by omega) (by omega), show (fitR r).getD (clampR to).toNat 0 + 1 - 2 = (fitR r).getD (clampR to).toNat 0 + -1 by omega]
    simp only [hw, Bool.false_eq_true, if_false, cond_false]
    exact fit_setB ht hw (by omega)
  · have hw : wideB (clampR to) = true := by simp_all
    rw [show IntKind.i64.wrap (-1) = -1 by decide, w64 (by omega) (by omega), show (fitR r).getD (clampR to).toNat 0 + 1 - 2 = (fitR r).getD (clampR to).toNat 0 + -1 by omega]
    simp only [hw, if_true, cond_true]
    exact fit_setE (by omega)
  · rw [show (fitR r).getD (clampR to).toNat 0 % 256 * 2 % 256 = (fitR r).getD (clampR to).toNat 0 * 2 % 256 by omega]
  · rw [show (fitR r).getD (clampR to).toNat 0 % 256 * 2 % 256 + (fitR r).getD 4 0 % 2 = ((fitR r).getD (clampR to).toNat 0 * 2 + (fitR r).getD 4 0 % 2) % 256 by omega]
  · rw [land_pos bP]
    generalize (land .i64 ((fitR r).getD 4 0) (n % 256) != 0) = b
    by_cases h : fr = 1 <;> cases b <;> simp [h]
  · rw [set_self, fit_fit]
    (repeat' split) <;> first | rfl | (exfalso; omega) | exact (fit_fit r).symm
  all_goals trace_state

end Go.Proofs.Ytblnigjmcjpopaa
