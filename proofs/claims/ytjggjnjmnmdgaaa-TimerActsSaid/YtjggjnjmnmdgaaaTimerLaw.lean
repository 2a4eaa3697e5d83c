/- The timer as plain functions: a cycle, many cycles. -/
import Derived.Test.YtjggjnjmnmdgaaaPortLaw
namespace Go.Proofs.Ytjggjnjmnmdgaaa
open Go.Fw
set_option linter.unusedVariables false
set_option linter.unusedSimpArgs false

def timN (N : List Int) : List Int := [N.getD 0 0 % 65536, N.getD 1 0 % 65536, N.getD 2 0 % 8, N.getD 3 0 % 2]
def tickT : List Int → List Int
  | [a, b, c, f] => if c % 2 = 0 then [a, b, c, f] else if a > 0 then [a - 1, b, c, f] else if c / 2 % 2 = 1 then [b, b, c, 1] else [a, b, c - 1, 1]
  | l => l
def iterT : Nat → List Int → List Int
  | 0, l => l
  | n + 1, l => iterT n (tickT l)
theorem iterT_add : ∀ (m n : Nat) (l : List Int), iterT (m + n) l = iterT n (iterT m l)
  | 0, n, l => by rw [Nat.zero_add]; rfl
  | m + 1, n, l => by
    have e : m + 1 + n = (m + n) + 1 := by omega
    rw [e]
    exact iterT_add m n (tickT l)
theorem it_off {a b c f : Int} (h : c % 2 = 0) : ∀ n, iterT n [a, b, c, f] = [a, b, c, f]
  | 0 => rfl
  | n + 1 => by
    rw [iterT, tickT, if_pos h]
    exact it_off h n
theorem it_run {b c f : Int} (h : ¬ c % 2 = 0) : ∀ (n : Nat) (a : Int), (n : Int) ≤ a → iterT n [a, b, c, f] = [a - n, b, c, f]
  | 0, a, _ => by rw [iterT]; simp
  | n + 1, a, ha => by
    rw [iterT, tickT, if_neg h, if_pos (by omega), it_run h n (a - 1) (by omega)]
    have : a - 1 - (n : Int) = a - ((n + 1 : Nat) : Int) := by omega
    rw [this]
theorem it_next {b c f a : Int} (h : ¬ c % 2 = 0) (ha : 0 ≤ a) (n : Nat) (hn : a < n) : iterT n [a, b, c, f] = iterT (n - a.toNat - 1) (tickT [0, b, c, f]) := by
  have e : n = a.toNat + ((n - a.toNat - 1) + 1) := by omega
  rw [e, iterT_add, it_run h a.toNat a (by omega)]
  have e2 : a - (a.toNat : Int) = 0 := by omega
  have e3 : a.toNat + (n - a.toNat - 1 + 1) - a.toNat - 1 = n - a.toNat - 1 := by omega
  rw [e2, e3]
  rfl
theorem it_rep {b c : Int} (h : ¬ c % 2 = 0) (h2 : c / 2 % 2 = 1) (hb : 0 ≤ b) : ∀ (m n : Nat), n ≤ m → iterT n [b, b, c, 1] = [b - (n : Int) % (b + 1), b, c, 1] := by
  intro m
  induction m with
  | zero =>
    intro n hn
    have : n = 0 := by omega
    subst this
    rw [iterT]; simp
  | succ m ih =>
    intro n hn
    by_cases hle : (n : Int) ≤ b
    · rw [it_run h n b hle, Int.emod_eq_of_lt (by omega) (by omega)]
    · rw [it_next h hb n (by omega), tickT, if_neg h, if_neg (by omega), if_pos h2, ih _ (by omega)]
      have e : ((n - b.toNat - 1 : Nat) : Int) = (n : Int) - (b + 1) := by omega
      rw [e, Int.sub_emod_right]
theorem it_again {a b c f : Int} (h : ¬ c % 2 = 0) (h2 : c / 2 % 2 = 1) (ha : 0 ≤ a) (hb : 0 ≤ b) (n : Nat) (hn : a < n) : iterT n [a, b, c, f] = [b - ((n : Int) - a - 1) % (b + 1), b, c, 1] := by
  rw [it_next h ha n hn, tickT, if_neg h, if_neg (by omega), if_pos h2, it_rep h h2 hb _ _ (Nat.le_refl _)]
  have e : ((n - a.toNat - 1 : Nat) : Int) = (n : Int) - a - 1 := by omega
  rw [e]
theorem it_once {a b c f : Int} (h : ¬ c % 2 = 0) (h2 : ¬ c / 2 % 2 = 1) (ha : 0 ≤ a) (n : Nat) (hn : a < n) : iterT n [a, b, c, f] = [0, b, c - 1, 1] := by
  rw [it_next h ha n hn, tickT, if_neg h, if_neg (by omega), if_neg h2]
  exact it_off (by omega) _
/-- the bits of the control register -/
theorem ctl {c : Int} (h0 : 0 ≤ c) (h1 : c < 8) : ((land .i64 c 1 == 0) = decide (c % 2 = 0)) ∧ ((land .i64 c 2 != 0) = decide (c / 2 % 2 = 1)) ∧ ((land .i64 c 4 != 0) = decide (c ≥ 4)) ∧ (¬ c % 2 = 0 → landNot .i64 c 1 = c - 1) := by
  have : c = 0 ∨ c = 1 ∨ c = 2 ∨ c = 3 ∨ c = 4 ∨ c = 5 ∨ c = 6 ∨ c = 7 := by omega
  rcases this with rfl | rfl | rfl | rfl | rfl | rfl | rfl | rfl <;> decide +kernel
theorem timN_idem {a b c f : Int} (ha : 0 ≤ a ∧ a < 65536) (hb : 0 ≤ b ∧ b < 65536) (hc : 0 ≤ c ∧ c < 8) (hf : 0 ≤ f ∧ f < 2) : timN [a, b, c, f] = [a, b, c, f] := by
  show [a % 65536, b % 65536, c % 8, f % 2] = _
  rw [Int.emod_eq_of_lt ha.1 ha.2, Int.emod_eq_of_lt hb.1 hb.2, Int.emod_eq_of_lt hc.1 hc.2, Int.emod_eq_of_lt hf.1 hf.2]
theorem tick_form4 {a b c f : Int} (ha : 0 ≤ a ∧ a < 65536) (hb : 0 ≤ b ∧ b < 65536) (hc : 0 ≤ c ∧ c < 8) (hf : 0 ≤ f ∧ f < 2) : timN (tickT [a, b, c, f]) = tickT [a, b, c, f] := by
  by_cases h1 : c % 2 = 0
  · have e : tickT [a, b, c, f] = [a, b, c, f] := if_pos h1
    rw [e]; exact timN_idem ha hb hc hf
  · by_cases h2 : a > 0
    · have e : tickT [a, b, c, f] = [a - 1, b, c, f] := by rw [tickT, if_neg h1, if_pos h2]
      rw [e]; exact timN_idem (by omega) hb hc hf
    · by_cases h3 : c / 2 % 2 = 1
      · have e : tickT [a, b, c, f] = [b, b, c, 1] := by rw [tickT, if_neg h1, if_neg h2, if_pos h3]
        rw [e]; exact timN_idem hb hb hc (by omega)
      · have e : tickT [a, b, c, f] = [a, b, c - 1, 1] := by rw [tickT, if_neg h1, if_neg h2, if_neg h3]
        rw [e]; exact timN_idem ha hb (by omega) (by omega)
theorem tick_form {l : List Int} (h : timN l = l) : timN (tickT l) = tickT l := by
  have := tick_form4 (a := l.getD 0 0 % 65536) (b := l.getD 1 0 % 65536) (c := l.getD 2 0 % 8) (f := l.getD 3 0 % 2) (by omega) (by omega) (by omega) (by omega)
  have e : [l.getD 0 0 % 65536, l.getD 1 0 % 65536, l.getD 2 0 % 8, l.getD 3 0 % 2] = l := h
  rw [e] at this
  exact this
theorem timN_form (N : List Int) : timN (timN N) = timN N := timN_idem (by omega) (by omega) (by omega) (by omega)

end Go.Proofs.Ytjggjnjmnmdgaaa
