/- The two voices as plain functions. -/
import Derived.Test.YthpijepbbpcjeaaSerial
namespace Go.Proofs.Ythpijepbbpcjeaa
open Go.Fw
set_option linter.unusedVariables false
set_option linter.unusedSimpArgs false

/-- the numbers of a voice, from a place on -/
def vo (N : List Int) (i : Nat) : List Int := [N.getD i 0 % 4096, N.getD (i + 1) 0 % 16, N.getD (i + 2) 0 % 256, N.getD (i + 3) 0 % 4096, N.getD (i + 4) 0 % 2, N.getD (i + 5) 0 % 16384]
def sndN (N : List Int) : List Int := vo N 0 ++ vo N 6
def passV (k : Int) : List Int → List Int
  | [p, v, r, c, f, w] =>
    [p, if (r > 0 ∧ v > 0) ∧ w + k ≥ r * 64 then v - 1 else v, r, if p > 0 then (if c + k ≥ p then 0 else c + k) else c, if p > 0 ∧ c + k ≥ p then 1 - f else f,
      if r > 0 ∧ v > 0 then (if w + k ≥ r * 64 then 0 else w + k) else w]
  | l => l
def quietV : List Int → Int
  | [p, v, r, c, f, w] => min (if p > 0 then max 1 (p - c) - 1 else 100000) (if r > 0 ∧ v > 0 then max 1 (r * 64 - w) - 1 else 100000)
  | _ => 100000
inductive vOk : List Int → Prop
  | mk {p v r c f w : Int} (hp : 0 ≤ p ∧ p < 4096) (hv : 0 ≤ v ∧ v < 16) (hr : 0 ≤ r ∧ r < 256) (hc : 0 ≤ c ∧ c < 4096) (hf : 0 ≤ f ∧ f < 2) (hw : 0 ≤ w ∧ w < 16384) : vOk [p, v, r, c, f, w]
theorem vo_ok (N : List Int) (i : Nat) : vOk (vo N i) := ⟨by omega, by omega, by omega, by omega, by omega, by omega⟩
theorem vOk.len {l : List Int} (h : vOk l) : l.length = 6 := by cases h; rfl
theorem vo_idem {l : List Int} (h : vOk l) : vo l 0 = l := by
  cases h with
  | mk hp hv hr hc hf hw =>
    rename_i p v r c f w
    show [p % 4096, v % 16, r % 256, c % 4096, f % 2, w % 16384] = _
    rw [Int.emod_eq_of_lt hp.1 hp.2, Int.emod_eq_of_lt hv.1 hv.2, Int.emod_eq_of_lt hr.1 hr.2, Int.emod_eq_of_lt hc.1 hc.2, Int.emod_eq_of_lt hf.1 hf.2, Int.emod_eq_of_lt hw.1 hw.2]
theorem vo_add {a b : List Int} (h : a.length = 6) : vo (a ++ b) 6 = vo b 0 := by
  have e : ∀ j, (a ++ b).getD (6 + j) 0 = b.getD j 0 := by
    intro j
    simp only [List.getD_eq_getElem?_getD]
    rw [List.getElem?_append_right (by omega)]
    have : 6 + j - a.length = j := by omega
    rw [this]
  unfold vo
  rw [show (a ++ b).getD 6 0 = b.getD 0 0 from e 0, show (a ++ b).getD (6 + 1) 0 = b.getD 1 0 from e 1, show (a ++ b).getD (6 + 2) 0 = b.getD 2 0 from e 2, show (a ++ b).getD (6 + 3) 0 = b.getD 3 0 from e 3,
    show (a ++ b).getD (6 + 4) 0 = b.getD 4 0 from e 4, show (a ++ b).getD (6 + 5) 0 = b.getD 5 0 from e 5]
theorem vo_fst {a b : List Int} (h : vOk a) : vo (a ++ b) 0 = vo a 0 := by cases h; rfl
theorem snd_idem {a b : List Int} (ha : vOk a) (hb : vOk b) : sndN (a ++ b) = a ++ b := by
  rw [sndN, vo_fst ha, vo_add ha.len, vo_idem ha, vo_idem hb]
theorem passV_ok {l : List Int} (h : vOk l) {k : Int} (hk : 0 ≤ k) : vOk (passV k l) := by
  cases h with
  | mk hp hv hr hc hf hw =>
    refine ⟨hp, ?_, hr, ?_, ?_, ?_⟩
    · split <;> omega
    · split
      · split <;> omega
      · exact hc
    · split <;> omega
    · split
      · split <;> omega
      · exact hw
theorem passV_len (k : Int) (l : List Int) : (passV k l).length = l.length := by
  unfold passV; split <;> rfl
theorem l6 {a b c d e f a' b' c' d' e' f' : Int} (h1 : a = a') (h2 : b = b') (h3 : c = c') (h4 : d = d') (h5 : e = e') (h6 : f = f') : [a, b, c, d, e, f] = [a', b', c', d', e', f'] := by rw [h1, h2, h3, h4, h5, h6]
/-- some quiet cycles, then one more -/
theorem passV_add {l : List Int} (h : vOk l) {j : Int} (hj : 0 < j) (hq : j ≤ quietV l) : passV 1 (passV j l) = passV (j + 1) l := by
  cases h with
  | mk hp hv hr hc hf hw =>
    rename_i p v r c f w
    have e1 : quietV [p, v, r, c, f, w] = min (if p > 0 then max 1 (p - c) - 1 else 100000) (if r > 0 ∧ v > 0 then max 1 (r * 64 - w) - 1 else 100000) := rfl
    rw [e1] at hq
    have q1 : p > 0 → ¬ c + j ≥ p := fun h => by rw [if_pos h] at hq; omega
    have q2 : r > 0 ∧ v > 0 → ¬ w + j ≥ r * 64 := fun h => by rw [if_pos h] at hq; omega
    have e2 : passV j [p, v, r, c, f, w] = [p, v, r, if p > 0 then c + j else c, f, if r > 0 ∧ v > 0 then w + j else w] := by
      refine l6 rfl ?_ rfl ?_ ?_ ?_
      · exact if_neg fun h => q2 h.1 h.2
      · by_cases h : p > 0
        · rw [if_pos h, if_pos h, if_neg (q1 h)]
        · rw [if_neg h, if_neg h]
      · exact if_neg fun h => q1 h.1 h.2
      · by_cases h : r > 0 ∧ v > 0
        · rw [if_pos h, if_pos h, if_neg (q2 h)]
        · rw [if_neg h, if_neg h]
    rw [e2]
    by_cases g1 : p > 0
    · rw [if_pos g1]
      by_cases g2 : r > 0 ∧ v > 0
      · rw [if_pos g2]
        refine l6 rfl ?_ rfl ?_ ?_ ?_ <;> simp only [g1, g2, and_self, true_and, if_true, Int.add_assoc]
      · rw [if_neg g2]
        refine l6 rfl ?_ rfl ?_ ?_ ?_ <;> simp only [g1, g2, false_and, true_and, if_true, if_false, Int.add_assoc]
    · rw [if_neg g1]
      by_cases g2 : r > 0 ∧ v > 0
      · rw [if_pos g2]
        refine l6 rfl ?_ rfl ?_ ?_ ?_ <;> simp only [g1, g2, and_self, false_and, true_and, if_true, if_false, Int.add_assoc]
      · rw [if_neg g2]
        refine l6 rfl ?_ rfl ?_ ?_ ?_ <;> simp only [g1, g2, false_and, if_false]
theorem passV_idle {l : List Int} (h : vOk l) (hq : quietV l = 100000) (k : Int) : passV k l = l := by
  cases h with
  | mk hp hv hr hc hf hw =>
    rename_i p v r c f w
    have e1 : quietV [p, v, r, c, f, w] = min (if p > 0 then max 1 (p - c) - 1 else 100000) (if r > 0 ∧ v > 0 then max 1 (r * 64 - w) - 1 else 100000) := rfl
    rw [e1] at hq
    have g1 : ¬ p > 0 := fun h => by rw [if_pos h] at hq; omega
    have g2 : ¬ (r > 0 ∧ v > 0) := fun h => by rw [if_pos h] at hq; omega
    refine l6 rfl ?_ rfl ?_ ?_ ?_
    · exact if_neg fun h => g2 h.1
    · exact if_neg g1
    · exact if_neg fun h => g1 h.1
    · exact if_neg g2
theorem quietV_in {l : List Int} (h : vOk l) : 0 ≤ quietV l ∧ quietV l ≤ 100000 := by
  cases h with
  | mk hp hv hr hc hf hw =>
    rename_i p v r c f w
    have e1 : quietV [p, v, r, c, f, w] = min (if p > 0 then max 1 (p - c) - 1 else 100000) (if r > 0 ∧ v > 0 then max 1 (r * 64 - w) - 1 else 100000) := rfl
    rw [e1]
    by_cases g1 : p > 0 <;> by_cases g2 : r > 0 ∧ v > 0 <;> simp only [g1, g2, and_self, if_true, if_false] <;> omega
theorem iterP_ok {l : List Int} (h : vOk l) : ∀ n, vOk (iterF (passV 1) n l)
  | 0 => h
  | n + 1 => by rw [iterF_succ]; exact passV_ok (iterP_ok h n) (by decide)
theorem iterP_run {l : List Int} (h : vOk l) : ∀ n : Nat, 0 < n → (n : Int) ≤ quietV l + 1 → iterF (passV 1) n l = passV n l
  | 1, _, _ => rfl
  | n + 2, _, hq => by
    rw [iterF_succ, iterP_run h (n + 1) (by omega) (by omega), passV_add h (by omega) (by omega)]; rfl
theorem iterP_idle {l : List Int} (h : vOk l) (hq : quietV l = 100000) (n : Nat) : iterF (passV 1) n l = l := iterF_fix (passV_idle h hq 1) n
theorem voice_end {a : List Int} (h : vOk a) {r : Int} (hr : 0 < r) (hq : quietV a ≥ r ∨ quietV a = 100000) : passV r a = iterF (passV 1) r.toNat a := by
  rcases hq with hq | hq
  · rw [iterP_run h r.toNat (by omega) (by omega)]
    have e : ((r.toNat : Nat) : Int) = r := by omega
    rw [e]
  · rw [iterP_idle h hq, passV_idle h hq]
theorem voice_step {a : List Int} (h : vOk a) {r : Int} (hq : quietV a < r) : iterF (passV 1) (r - (quietV a + 1)).toNat (passV (quietV a + 1) a) = iterF (passV 1) r.toNat a := by
  have hq0 := quietV_in h
  have e : r.toNat = (quietV a + 1).toNat + (r - (quietV a + 1)).toNat := by omega
  rw [e, iterF_add, iterP_run h (quietV a + 1).toNat (by omega) (by omega)]
  have e2 : (((quietV a + 1).toNat : Nat) : Int) = quietV a + 1 := by omega
  rw [e2]
theorem fst6 {a b : List Int} (h : a.length = 6) : ((a ++ b).drop 0).take 6 = a := List.take_left' h
theorem snd6 {a b : List Int} (h : a.length = 6) (h2 : b.length = 6) : ((a ++ b).drop 6).take 6 = b := by rw [List.drop_left' h]; exact List.take_of_length_le (by omega)
theorem heap2 {x : Blk} {l l' : List Int} (h : l = l') : [some x, some (Blk.arr (.int .i64) l)] = [some x, some (Blk.arr (.int .i64) l')] := by rw [h]
/-- a voice within the state -/
def passL (off : Nat) (l : List Int) (k : Int) : List Int := l.take off ++ (passV k ((l.drop off).take 6) ++ l.drop (off + 6))
theorem passL_fst {a b : List Int} (h : a.length = 6) (k : Int) : passL 0 (a ++ b) k = passV k a ++ b := by
  unfold passL
  simp [← h]
theorem passL_snd {a b : List Int} (h : a.length = 6) (h2 : b.length = 6) (k : Int) : passL 6 (a ++ b) k = a ++ passV k b := by
  unfold passL
  rw [List.take_left' h, List.drop_left' h, List.take_of_length_le (by omega), List.drop_eq_nil_of_le (by simp [h, h2]), List.append_nil]
def tickW (l : List Int) : List Int := passV 1 (l.take 6) ++ passV 1 (l.drop 6)
theorem tickW_app {a b : List Int} (h : a.length = 6) : tickW (a ++ b) = passV 1 a ++ passV 1 b := by unfold tickW; simp [← h]
theorem iterW {a b : List Int} (ha : vOk a) (hb : vOk b) : ∀ n, iterF tickW n (a ++ b) = iterF (passV 1) n a ++ iterF (passV 1) n b
  | 0 => rfl
  | n + 1 => by rw [iterF_succ, iterW ha hb n, tickW_app (iterP_ok ha n).len, iterF_succ, iterF_succ]

end Go.Proofs.Ythpijepbbpcjeaa
