/- The picture as plain functions: what is seen at a position, and many cycles. -/
import Derived.Test.YthpijepbbpcjeaaSerial
import Derived.Test.YthpijepbbpcjeaaFw31
namespace Go.Proofs.Ythpijepbbpcjeaa
open Go.Fw
set_option linter.unusedVariables false
set_option linter.unusedSimpArgs false

abbrev bA (m : List Int) (i : Nat) : Int := m.getD i 0
def u8s (m : List Int) : Prop := ∀ x ∈ m, 0 ≤ x ∧ x < 256
instance (m : List Int) : Decidable (u8s m) := by unfold u8s; exact inferInstance
theorem u8s_get {m : List Int} (h : u8s m) (i : Nat) : 0 ≤ bA m i ∧ bA m i < 256 := by
  unfold bA
  rw [List.getD_eq_getElem?_getD]
  cases hi : m[i]? with
  | none => exact ⟨by decide, by decide⟩
  | some x => exact h x (List.mem_of_getElem? hi)
theorem u8s_of {l : List Int} (h : ∀ x ∈ l, Wf (.int .u8) x) : u8s l := by
  intro x hx
  have h2 : (decide (IntKind.u8.min ≤ x) && decide (x ≤ IntKind.u8.max)) = true := h x hx
  have e1 : IntKind.u8.min = 0 := by decide +kernel
  have e2 : IntKind.u8.max = 255 := by decide +kernel
  rw [e1, e2] at h2
  simp only [Bool.and_eq_true, decide_eq_true_eq] at h2
  exact ⟨h2.1, by omega⟩
def visB (pos : Int) : Bool := decide (pos % 64 < 48) && decide (pos / 64 < 32)
def cellF (m : List Int) (pos : Int) : Int := bA m (8 + pos / 64 / 8 * 6 + pos % 64 / 8).toNat % 16
def spriteB (m : List Int) (pos : Int) : Bool :=
  (decide (bA m 1 ≤ pos % 64) && decide (pos % 64 < bA m 1 + 8)) && ((decide (bA m 2 ≤ pos / 64) && decide (pos / 64 < bA m 2 + 8)) && decide (bA m 4 / 2 ^ (7 - (pos % 64 - bA m 1)).toNat % 2 = 1))
def shadeB (m : List Int) (pos : Int) (i : Nat) : Bool :=
  decide (pos % 64 = bA m 1 + i) && ((decide (bA m 2 ≤ pos / 64) && decide (pos / 64 < bA m 2 + 8)) && decide (bA m 4 / 2 ^ (7 - i) % 2 = 1))
theorem sprite_yes {m : List Int} {pos : Int} {i : Nat} (hi : i < 8) (h : shadeB m pos i = true) : spriteB m pos = true := by
  unfold shadeB at h
  simp only [Bool.and_eq_true, decide_eq_true_eq] at h
  obtain ⟨h1, h2, h3⟩ := h
  unfold spriteB
  simp only [Bool.and_eq_true, decide_eq_true_eq]
  refine ⟨⟨by omega, by omega⟩, h2, ?_⟩
  have e : (7 - (pos % 64 - bA m 1)).toNat = 7 - i := by omega
  rw [e]; exact h3
theorem sprite_no {m : List Int} {pos : Int} (h : ∀ i, i < 8 → shadeB m pos i = false) : spriteB m pos = false := by
  cases hs : spriteB m pos with
  | false => rfl
  | true =>
    exfalso
    unfold spriteB at hs
    simp only [Bool.and_eq_true, decide_eq_true_eq] at hs
    obtain ⟨⟨h1, h2⟩, h3, h4⟩ := hs
    have := h (pos % 64 - bA m 1).toNat (by omega)
    have ht : shadeB m pos (pos % 64 - bA m 1).toNat = true := by
      unfold shadeB
      simp only [Bool.and_eq_true, decide_eq_true_eq]
      refine ⟨by omega, h3, ?_⟩
      have e : (7 - (pos % 64 - bA m 1)).toNat = 7 - (pos % 64 - bA m 1).toNat := by omega
      rw [← e]; exact h4
    rw [ht] at this
    cases this
def colorF (m : List Int) (pos : Int) : Int := if visB pos = true then (if spriteB m pos = true then bA m 3 % 16 else cellF m pos) else bA m 0 % 16
def hitB (m : List Int) (pos : Int) : Bool := visB pos && (spriteB m pos && decide (cellF m pos ≠ 0))
theorem cellF_in (m : List Int) (pos : Int) : 0 ≤ cellF m pos ∧ cellF m pos < 16 := by unfold cellF; omega
/-- bits of a byte -/
theorem byte_bit : ∀ x, x < 256 → ∀ i, i < 8 → (shl .u8 ((x : Nat) : Int) ((i : Nat) : Int) ≥ 128 ↔ x / 2 ^ (7 - i) % 2 = 1) := by decide +kernel
theorem byte_bit2 : ∀ x, x < 256 → ∀ i, i < 8 → (land .u8 (shr .u8 ((x : Nat) : Int) ((i : Nat) : Int)) 1 = 1 ↔ x / 2 ^ i % 2 = 1) := by decide +kernel
theorem byte_bitI {x : Int} (h : 0 ≤ x ∧ x < 256) {i : Nat} (hi : i < 8) : shl .u8 x ((i : Nat) : Int) ≥ 128 ↔ x / 2 ^ (7 - i) % 2 = 1 := by
  obtain ⟨n, rfl⟩ := Int.eq_ofNat_of_zero_le h.1
  rw [byte_bit n (by omega) i hi]
  have e : ((n : Int) / 2 ^ (7 - i) % 2) = ((n / 2 ^ (7 - i) % 2 : Nat) : Int) := by simp
  rw [e]; omega
theorem byte_bitI2 {x : Int} (h : 0 ≤ x ∧ x < 256) {i : Nat} (hi : i < 8) : land .u8 (shr .u8 x ((i : Nat) : Int)) 1 = 1 ↔ x / 2 ^ i % 2 = 1 := by
  obtain ⟨n, rfl⟩ := Int.eq_ofNat_of_zero_le h.1
  rw [byte_bit2 n (by omega) i hi]
  have e : ((n : Int) / 2 ^ i % 2) = ((n / 2 ^ i % 2 : Nat) : Int) := by simp
  rw [e]; omega

theorem land15 : ∀ n, n < 256 → land .i64 ((n : Nat) : Int) 15 = ((n : Nat) : Int) % 16 := by decide +kernel
theorem land15I {x : Int} (h : 0 ≤ x ∧ x < 256) : land .i64 (IntKind.i64.wrap x) 15 = x % 16 := by
  rw [w64 (by omega) (by omega)]
  obtain ⟨n, rfl⟩ := Int.eq_ofNat_of_zero_le h.1
  exact land15 n (by omega)
def vP (N : List Int) : Int := if N.length = 0 then 2559 else N.getD 0 0 % 2560
abbrev vH (N : List Int) : Int := N.getD 1 0 % 2
def vN (N : List Int) : List Int := [vP N, vH N]
def vM (M : List Int) : List Int := over (List.replicate 32 0) M 0
theorem vP_in (N : List Int) : 0 ≤ vP N ∧ vP N < 2560 := by unfold vP; split <;> omega
theorem vM_len (M : List Int) : (vM M).length = 32 := by unfold vM; rw [over_length]; rfl
theorem vM_u8 {M : List Int} (h : u8s M) : u8s (vM M) := by
  intro x hx
  have : ∀ (l : List Int) (i : Nat), (∀ y ∈ l, 0 ≤ y ∧ y < 256) → ∀ y ∈ over l M i, 0 ≤ y ∧ y < 256 := by
    intro l
    induction l with
    | nil => intro i _ y hy; cases hy
    | cons d l ih =>
      intro i hl y hy
      rcases List.mem_cons.1 hy with rfl | hy
      · rw [List.getD_eq_getElem?_getD]
        cases hi : M[i]? with
        | none => exact hl d (List.mem_cons_self)
        | some z => exact h z (List.mem_of_getElem? hi)
      · exact ih (i + 1) (fun y hy => hl y (List.mem_cons_of_mem _ hy)) y hy
  exact this _ 0 (fun y hy => by rw [List.eq_of_mem_replicate hy]; decide) x hx
theorem vM_idem {m : List Int} (h : m.length = 32) : vM m = m := by
  unfold vM
  rw [over_eq]
  simp only [List.length_replicate, List.drop_replicate, h, Nat.sub_self, List.replicate_zero, List.append_nil, List.drop_zero]
  exact List.take_of_length_le (by omega)
theorem cell_at {pos : Int} (hp0 : 0 ≤ pos) (hp1 : pos < 2560) : IntKind.i64.wrap (IntKind.i64.wrap (8 + IntKind.i64.wrap (IntKind.i64.wrap (Int.tdiv (IntKind.i64.wrap (Int.tdiv pos 64)) 8) * 6)) + IntKind.i64.wrap (Int.tdiv (Int.tmod pos 64) 8)) = 8 + pos / 64 / 8 * 6 + pos % 64 / 8 := by
  have eq64 : IntKind.i64.wrap (Int.tdiv pos 64) = pos / 64 := by rw [Int.tdiv_eq_ediv_of_nonneg hp0, w64 (by omega) (by omega)]
  have er64 : Int.tmod pos 64 = pos % 64 := Int.tmod_eq_emod_of_nonneg hp0
  rw [eq64, er64, Int.tdiv_eq_ediv_of_nonneg (show 0 ≤ pos / 64 by omega), Int.tdiv_eq_ediv_of_nonneg (show 0 ≤ pos % 64 by omega), w64 (x := pos / 64 / 8) (by omega) (by omega), w64 (x := pos / 64 / 8 * 6) (by omega) (by omega),
    w64 (x := 8 + pos / 64 / 8 * 6) (by omega) (by omega), w64 (x := pos % 64 / 8) (by omega) (by omega), w64 (by omega) (by omega)]
def tickV (m : List Int) : List Int → List Int
  | [p, h] => [(p + 1) % 2560, if hitB m ((p + 1) % 2560) = true then 1 else h]
  | l => l
theorem vN_idem {p h : Int} (hp : 0 ≤ p ∧ p < 2560) (hh : 0 ≤ h ∧ h < 2) : vN [p, h] = [p, h] := by
  show [p % 2560, h % 2] = _
  rw [Int.emod_eq_of_lt hp.1 hp.2, Int.emod_eq_of_lt hh.1 hh.2]
def anyH (m : List Int) (p : Int) (n : Nat) : Bool := (List.range n).any fun j => hitB m ((p + 1 + j) % 2560)
theorem anyH_succ (m : List Int) (p : Int) (n : Nat) : anyH m p (n + 1) = (anyH m p n || hitB m ((p + 1 + n) % 2560)) := by
  unfold anyH
  rw [List.range_succ, List.any_append]; simp
theorem iterV (m : List Int) {p h : Int} (hp : 0 ≤ p ∧ p < 2560) : ∀ n, iterF (tickV m) n [p, h] = [(p + n) % 2560, if anyH m p n = true then 1 else h]
  | 0 => by
    rw [iterF]
    have e : (p + ((0 : Nat) : Int)) % 2560 = p := by omega
    rw [e]; rfl
  | n + 1 => by
    rw [iterF_succ, iterV m hp n, tickV, anyH_succ]
    have e : ((p + (n : Int)) % 2560 + 1) % 2560 = (p + ((n + 1 : Nat) : Int)) % 2560 := by omega
    have e2 : (p + 1 + (n : Int)) % 2560 = (p + ((n + 1 : Nat) : Int)) % 2560 := by omega
    rw [e, e2]
    cases hitB m ((p + ((n + 1 : Nat) : Int)) % 2560) <;> cases anyH m p n <;> rfl
theorem anyH_mono {m : List Int} {p : Int} {a b : Nat} (h : a ≤ b) (ha : anyH m p a = true) : anyH m p b = true := by
  unfold anyH at *
  rw [List.any_eq_true] at *
  obtain ⟨j, hj, hh⟩ := ha
  exact ⟨j, List.mem_range.2 (by have := List.mem_range.1 hj; omega), hh⟩
theorem anyH_all {m : List Int} {p : Int} {a : Nat} (h : 2560 ≤ a) : anyH m p a = anyH m p 2560 := by
  cases h2 : anyH m p 2560 with
  | true => exact anyH_mono h h2
  | false =>
    cases ha : anyH m p a with
    | false => rfl
    | true =>
      exfalso
      unfold anyH at ha h2
      rw [List.any_eq_true] at ha
      obtain ⟨j, hj, hh⟩ := ha
      rw [List.any_eq_false] at h2
      refine h2 (j % 2560) (List.mem_range.2 (by omega)) ?_
      have e : (p + 1 + ((j % 2560 : Nat) : Int)) % 2560 = (p + 1 + (j : Int)) % 2560 := by omega
      rw [e]; exact hh
theorem iterV_far (m : List Int) {p h : Int} (hp : 0 ≤ p ∧ p < 2560) {n : Nat} (hn : 5120 < n) : iterF (tickV m) n [p, h] = iterF (tickV m) (2560 + n % 2560) [p, h] := by
  rw [iterV m hp, iterV m hp, anyH_all (by omega), anyH_all (a := 2560 + n % 2560) (by omega)]
  have e : (p + (n : Int)) % 2560 = (p + ((2560 + n % 2560 : Nat) : Int)) % 2560 := by omega
  rw [e]

end Go.Proofs.Ythpijepbbpcjeaa
