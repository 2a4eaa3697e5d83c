/- The chip that reads and writes disks as plain functions: cycles. -/
import Derived.Test.YthpijepbbpcjeaaDrive2
import Derived.Test.YthpijepbbpcjeaaVideoLaw
namespace Go.Proofs.Ythpijepbbpcjeaa
open Go.Fw
set_option linter.unusedVariables false
set_option linter.unusedSimpArgs false

abbrev DS := List Int × List Int
def iterA {α : Type} (f : α → α) : Nat → α → α
  | 0, l => l
  | n + 1, l => iterA f n (f l)
theorem iterA_add {α : Type} (f : α → α) : ∀ (m n : Nat) (l : α), iterA f (m + n) l = iterA f n (iterA f m l)
  | 0, n, l => by rw [Nat.zero_add]; rfl
  | m + 1, n, l => by
    have e : m + 1 + n = (m + n) + 1 := by omega
    rw [e]
    exact iterA_add f m n (f l)
theorem iterA_succ {α : Type} (f : α → α) (n : Nat) (l : α) : iterA f (n + 1) l = f (iterA f n l) := by
  rw [iterA_add f n 1]; rfl
theorem iterA_fix {α : Type} {f : α → α} {l : α} (h : f l = l) : ∀ n, iterA f n l = l
  | 0 => rfl
  | n + 1 => by rw [iterA, h]; exact iterA_fix h n

def atI (k t s i : Int) : Int := 256 * k - 256 + 64 * t + 16 * s + i
def toI (c t : Int) : Int := if c = 1 then (if t + 1 < 4 then t + 1 else t) else (if 0 ≤ t - 1 then t - 1 else t)
def doneF : DS → DS
  | ([k, t, c, s, i, l, d, r, o, x], m) =>
    if c < 3 then ([k, toI c t, 0, s, i, 0, d, r, o, x], m)
    else if i + 1 = 16 then ([k, t, 0, s, 0, 0, if c = 3 then m.getD (atI k t s i).toNat 0 else d, if c = 4 then 0 else 1, if r = 1 then 1 else o, x], if c = 3 then m else m.set (atI k t s i).toNat d)
    else ([k, t, c, s, i + 1, 20, if c = 3 then m.getD (atI k t s i).toNat 0 else d, 1, if r = 1 then 1 else o, x], if c = 3 then m else m.set (atI k t s i).toNat d)
  | s => s
def turnF : DS → DS
  | ([k, t, c, s, i, l, d, r, o, x], m) =>
    if c > 0 then
      (if c > 2 ∧ k = 0 then ([k, t, 0, s, i, l, d, r, o, x], m)
       else if l > 1 then ([k, t, c, s, i, l - 1, d, r, o, x], m)
       else doneF ([k, t, c, s, i, l, d, r, o, x], m))
    else ([k, t, c, s, i, l, d, r, o, x], m)
  | s => s
inductive dOk (q : Nat) : List Int → Prop
  | mk {k t c s i l d r o x : Int} (hk : 0 ≤ k ∧ k ≤ q ∧ k < 256) (ht : 0 ≤ t ∧ t < 4) (hc : 0 ≤ c ∧ c ≤ 4) (hs : 0 ≤ s ∧ s < 4) (hi : 0 ≤ i ∧ i < 16) (hl : 0 ≤ l ∧ l < 64) (hd : 0 ≤ d ∧ d < 256) (hr : 0 ≤ r ∧ r < 2) (ho : 0 ≤ o ∧ o < 2) (hx : 0 ≤ x ∧ x < 2) : dOk q [k, t, c, s, i, l, d, r, o, x]
theorem dOk.len {q : Nat} {l : List Int} (h : dOk q l) : l.length = 10 := by cases h; rfl
theorem dN_ok (N : List Int) (q : Nat) : dOk q (dN N q) := by
  refine ⟨?_, by omega, ?_, by omega, by omega, by omega, by omega, by omega, by omega, by omega⟩
  · split <;> omega
  · split <;> omega
theorem dN_idem {q : Nat} {l : List Int} (h : dOk q l) : dN l q = l := by
  cases h with
  | mk hk ht hc hs hi hl hd hr ho hx =>
    rename_i k t c s i l d r o x
    show [if k % 256 > q then 0 else k % 256, t % 4, if c % 8 > 4 then 0 else c % 8, s % 4, i % 16, l % 64, d % 256, r % 2, o % 2, x % 2] = _
    rw [Int.emod_eq_of_lt hk.1 hk.2.2, Int.emod_eq_of_lt ht.1 ht.2, Int.emod_eq_of_lt (a := c) (b := 8) hc.1 (by omega), Int.emod_eq_of_lt hs.1 hs.2, Int.emod_eq_of_lt hi.1 hi.2, Int.emod_eq_of_lt hl.1 hl.2, Int.emod_eq_of_lt hd.1 hd.2,
      Int.emod_eq_of_lt hr.1 hr.2, Int.emod_eq_of_lt ho.1 ho.2, Int.emod_eq_of_lt hx.1 hx.2, if_neg (by omega), if_neg (by omega)]
structure DOk (q : Nat) (s : DS) : Prop where
  n : dOk q s.1
  m : s.2.length = q * 256
  u : u8s s.2
theorem u8s_set {m : List Int} (h : u8s m) {d : Int} (hd : 0 ≤ d ∧ d < 256) (i : Nat) : u8s (m.set i d) := by
  intro x hx
  rcases List.mem_or_eq_of_mem_set hx with h1 | rfl
  · exact h x h1
  · exact hd
theorem toI_in {c t : Int} (h : 0 ≤ t ∧ t < 4) : 0 ≤ toI c t ∧ toI c t < 4 := by
  unfold toI
  split <;> split <;> omega
theorem doneF_ok {q : Nat} {s : DS} (h : DOk q s) : DOk q (doneF s) := by
  obtain ⟨n, m⟩ := s
  obtain ⟨hn, hm, hu⟩ := h
  have hm : m.length = q * 256 := hm
  have hu : u8s m := hu
  cases hn with
  | mk hk ht hc hs hi hl hd hr ho hx =>
    rename_i k t c s i l d r o x
    have hb := u8s_get hu (atI k t s i).toNat
    have hb : 0 ≤ m.getD (atI k t s i).toNat 0 ∧ m.getD (atI k t s i).toNat 0 < 256 := hb
    have hdd : 0 ≤ (if c = 3 then m.getD (atI k t s i).toNat 0 else d) ∧ (if c = 3 then m.getD (atI k t s i).toNat 0 else d) < 256 := by split <;> assumption
    have hoo : 0 ≤ (if r = 1 then 1 else o) ∧ (if r = 1 then 1 else o) < 2 := by split <;> omega
    have hlen : (if c = 3 then m else m.set (atI k t s i).toNat d).length = q * 256 := by split <;> simp [hm]
    have huu : u8s (if c = 3 then m else m.set (atI k t s i).toNat d) := by
      split
      · exact hu
      · exact u8s_set hu hd _
    rw [doneF]
    by_cases h1 : c < 3
    · rw [if_pos h1]
      exact ⟨⟨hk, toI_in ht, by omega, hs, hi, by omega, hd, hr, ho, hx⟩, hm, hu⟩
    · rw [if_neg h1]
      by_cases h2 : i + 1 = 16
      · rw [if_pos h2]
        exact ⟨⟨hk, ht, by omega, hs, by omega, by omega, hdd, by split <;> omega, hoo, hx⟩, hlen, huu⟩
      · rw [if_neg h2]
        exact ⟨⟨hk, ht, hc, hs, by omega, by omega, hdd, by omega, hoo, hx⟩, hlen, huu⟩
theorem turnF_ok {q : Nat} {s : DS} (h : DOk q s) : DOk q (turnF s) := by
  obtain ⟨n, m⟩ := s
  have h0 := h
  obtain ⟨hn, hm, hu⟩ := h
  have hm : m.length = q * 256 := hm
  have hu : u8s m := hu
  cases hn with
  | mk hk ht hc hs hi hl hd hr ho hx =>
    rename_i k t c s i l d r o x
    rw [turnF]
    by_cases h1 : c > 0
    · rw [if_pos h1]
      by_cases h2 : c > 2 ∧ k = 0
      · rw [if_pos h2]
        exact ⟨⟨hk, ht, by omega, hs, hi, hl, hd, hr, ho, hx⟩, hm, hu⟩
      · rw [if_neg h2]
        by_cases h3 : l > 1
        · rw [if_pos h3]
          exact ⟨⟨hk, ht, hc, hs, hi, by omega, hd, hr, ho, hx⟩, hm, hu⟩
        · rw [if_neg h3]; exact doneF_ok h0
    · rw [if_neg h1]; exact h0
theorem iterT_ok {q : Nat} {s : DS} (h : DOk q s) : ∀ n, DOk q (iterA turnF n s)
  | 0 => h
  | n + 1 => by rw [iterA_succ]; exact turnF_ok (iterT_ok h n)
theorem skip_idle {k t c s i l d r o x : Int} {m : List Int} (hc : ¬ c > 0) (n : Nat) : iterA turnF n ([k, t, c, s, i, l, d, r, o, x], m) = ([k, t, c, s, i, l, d, r, o, x], m) :=
  iterA_fix (by rw [turnF, if_neg hc]) n
theorem skip_none {k t c s i l d r o x : Int} {m : List Int} (hc : c > 2) (hk : k = 0) {n : Nat} (hn : 0 < n) : iterA turnF n ([k, t, c, s, i, l, d, r, o, x], m) = ([k, t, 0, s, i, l, d, r, o, x], m) := by
  obtain ⟨n, rfl⟩ : ∃ n', n = n' + 1 := ⟨n - 1, by omega⟩
  rw [iterA, turnF, if_pos (by omega), if_pos ⟨hc, hk⟩]
  exact skip_idle (by decide) n
theorem skip_wait {k t c s i d r o x : Int} {m : List Int} (hc : c > 0) (hk : ¬ (c > 2 ∧ k = 0)) : ∀ (n : Nat) (l : Int), (n : Int) < l → iterA turnF n ([k, t, c, s, i, l, d, r, o, x], m) = ([k, t, c, s, i, l - n, d, r, o, x], m)
  | 0, l, _ => by rw [iterA]; simp
  | n + 1, l, h => by
    rw [iterA, turnF, if_pos hc, if_neg hk, if_pos (by omega), skip_wait hc hk n (l - 1) (by omega)]
    have : l - 1 - (n : Int) = l - ((n + 1 : Nat) : Int) := by omega
    rw [this]
theorem doneF_left {k t c s i l l' d r o x : Int} {m : List Int} : doneF ([k, t, c, s, i, l, d, r, o, x], m) = doneF ([k, t, c, s, i, l', d, r, o, x], m) := rfl
theorem skip_done {k t c s i l d r o x : Int} {m : List Int} (hc : c > 0) (hk : ¬ (c > 2 ∧ k = 0)) (hl : 0 ≤ l) {n : Nat} (hn : 0 < n) (h : ¬ (n : Int) < l) :
    iterA turnF n ([k, t, c, s, i, l, d, r, o, x], m) = iterA turnF ((n : Int) - max 1 l).toNat (doneF ([k, t, c, s, i, 0, d, r, o, x], m)) := by
  have e : n = (l - 1).toNat + (((n : Int) - max 1 l).toNat + 1) := by omega
  rw [e, iterA_add]
  have e2 : iterA turnF (l - 1).toNat ([k, t, c, s, i, l, d, r, o, x], m) = ([k, t, c, s, i, l - ((l - 1).toNat : Nat), d, r, o, x], m) := by
    by_cases h0 : l = 0
    · subst h0
      show iterA turnF 0 _ = _
      rw [iterA]; simp
    · exact skip_wait hc hk _ _ (by omega)
  have e3 : (((l - 1).toNat + (((n : Int) - max 1 l).toNat + 1) : Nat) : Int) = n := by omega
  rw [e2, e3, iterA, turnF, if_pos hc, if_neg hk, if_neg (by omega)]
  rw [doneF_left (l' := 0)]
def placeDF : List Int → Int
  | [k, t, c, s, i, l, d, r, o, x] => atI k t s i
  | _ => 0
def canDo (s : DS) : Prop := 0 < s.1.getD 2 0 ∧ (2 < s.1.getD 2 0 → 0 < s.1.getD 0 0) ∧ s.1.getD 5 0 = 0
theorem atI_in {k t s i : Int} {q : Nat} (hk : 0 < k ∧ k ≤ q) (ht : 0 ≤ t ∧ t < 4) (hs : 0 ≤ s ∧ s < 4) (hi : 0 ≤ i ∧ i < 16) : 0 ≤ atI k t s i ∧ atI k t s i < ((q * 256 : Nat) : Int) := by
  unfold atI; omega
theorem atI_small {k t s i : Int} (hk : 0 ≤ k ∧ k < 256) (ht : 0 ≤ t ∧ t < 4) (hs : 0 ≤ s ∧ s < 4) (hi : 0 ≤ i ∧ i < 16) : -256 ≤ atI k t s i ∧ atI k t s i < 65536 := by
  unfold atI; omega
theorem doneF_lt {k t c s i l d r o x : Int} {m : List Int} (h : c < 3) : doneF ([k, t, c, s, i, l, d, r, o, x], m) = ([k, toI c t, 0, s, i, 0, d, r, o, x], m) := by rw [doneF, if_pos h]
theorem doneF_16 {k t c s i l d r o x : Int} {m : List Int} (h : ¬ c < 3) (h2 : i + 1 = 16) : doneF ([k, t, c, s, i, l, d, r, o, x], m) =
    ([k, t, 0, s, 0, 0, if c = 3 then m.getD (atI k t s i).toNat 0 else d, if c = 4 then 0 else 1, if r = 1 then 1 else o, x], if c = 3 then m else m.set (atI k t s i).toNat d) := by rw [doneF, if_neg h, if_pos h2]
theorem doneF_go {k t c s i l d r o x : Int} {m : List Int} (h : ¬ c < 3) (h2 : ¬ i + 1 = 16) : doneF ([k, t, c, s, i, l, d, r, o, x], m) =
    ([k, t, c, s, i + 1, 20, if c = 3 then m.getD (atI k t s i).toNat 0 else d, 1, if r = 1 then 1 else o, x], if c = 3 then m else m.set (atI k t s i).toNat d) := by rw [doneF, if_neg h, if_neg h2]
theorem l10 {a b c d e f g h i j a' b' c' d' e' f' g' h' i' j' : Int} (h1 : a = a') (h2 : b = b') (h3 : c = c') (h4 : d = d') (h5 : e = e') (h6 : f = f') (h7 : g = g') (h8 : h = h') (h9 : i = i') (h10 : j = j') : [a, b, c, d, e, f, g, h, i, j] = [a', b', c', d', e', f', g', h', i', j'] := by rw [h1, h2, h3, h4, h5, h6, h7, h8, h9, h10]
theorem turn_none {k t c s i l d r o x : Int} {m : List Int} (hc : c > 2) (hk : k = 0) : turnF ([k, t, c, s, i, l, d, r, o, x], m) = ([k, t, 0, s, i, l, d, r, o, x], m) := by rw [turnF, if_pos (by omega), if_pos ⟨hc, hk⟩]
theorem turn_wait {k t c s i l d r o x : Int} {m : List Int} (hc : c > 0) (hk : ¬ (c > 2 ∧ k = 0)) (hl : l > 1) : turnF ([k, t, c, s, i, l, d, r, o, x], m) = ([k, t, c, s, i, l - 1, d, r, o, x], m) := by rw [turnF, if_pos hc, if_neg hk, if_pos hl]
theorem turn_done {k t c s i l d r o x : Int} {m : List Int} (hc : c > 0) (hk : ¬ (c > 2 ∧ k = 0)) (hl : ¬ l > 1) : turnF ([k, t, c, s, i, l, d, r, o, x], m) = doneF ([k, t, c, s, i, l, d, r, o, x], m) := by rw [turnF, if_pos hc, if_neg hk, if_neg hl]
theorem at_turn {k t s i : Int} (hk : 0 ≤ k ∧ k < 256) (ht : 0 ≤ t ∧ t < 4) (hs : 0 ≤ s ∧ s < 4) (hi : 0 ≤ i ∧ i < 16) :
    IntKind.i64.wrap (IntKind.i64.wrap (IntKind.i64.wrap (IntKind.i64.wrap (IntKind.i64.wrap (256 * k) - 256) + IntKind.i64.wrap (64 * t)) + IntKind.i64.wrap (16 * s)) + i) = atI k t s i := by
  rw [w64 (x := 256 * k) (by omega) (by omega), w64 (x := 256 * k - 256) (by omega) (by omega), w64 (x := 64 * t) (by omega) (by omega), w64 (x := 256 * k - 256 + 64 * t) (by omega) (by omega), w64 (x := 16 * s) (by omega) (by omega),
    w64 (x := 256 * k - 256 + 64 * t + 16 * s) (by omega) (by omega), w64 (by omega) (by omega)]; rfl
theorem set_at {m : List Int} {a b : Int} {x y : Int} (h : a = b) (h2 : x = y) : m.set a.toNat x = m.set b.toNat y := by rw [h, h2]
theorem get_at {m : List Int} {a b : Int} (h : a = b) : m.getD a.toNat 0 = m.getD b.toNat 0 := by rw [h]
theorem or1 {o r : Int} (ho : 0 ≤ o ∧ o < 2) (hr : 0 ≤ r ∧ r < 2) : lor .i64 o r = if r = 1 then 1 else o := by
  have a1 : o = 0 ∨ o = 1 := by omega
  have a2 : r = 0 ∨ r = 1 := by omega
  rcases a1 with rfl | rfl <;> rcases a2 with rfl | rfl <;> decide +kernel

end Go.Proofs.Ythpijepbbpcjeaa
