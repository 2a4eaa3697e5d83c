/- Signs, turns and counts of digits; slices.Reverse. -/
import Derived.Test.YtjggjnjmnmdgaaaAddLaw
import Derived.Test.YtjggjnjmnmdgaaaFw30
namespace Go.Proofs.Ytjggjnjmnmdgaaa
open Go.Fw
set_option linter.unusedVariables false
set_option linter.unusedSimpArgs false
set_option maxRecDepth 100000

def signedF (n b : Int) : Int :=
  if widthF b > 0 then
    (if (shr .i64 (lowF n (widthF b)) (IntKind.i64.wrap (widthF b - 1)) == 1) = true then IntKind.i64.wrap (lowF n (widthF b) - shl .i64 1 (widthF b)) else lowF n (widthF b))
  else lowF n (widthF b)
def signedS : PSpec := ⟨[gi, gi], fun (n, b, _) => (none, I (signedF n b), [])⟩
theorem signed_ok : Good Try.prog 34 signedS.spec := by
  have hT := tab_ok (fs := [(85, widthS.spec), (33, lowS.spec)]) tree_ok
  have hP : SpecsOk Try.prog (tab tree [(85, widthS.spec), (33, lowS.spec)]) := specs_cons width_ok (specs_cons low_ok specs_nil)
  refine signedS.good (fn := Try.f34) hT hP Try.func34 (by kernel_rfl) rfl fun (n b : Int) _ => ?_
  obtain ⟨hw0, hw1⟩ := widthF_in b
  repeat' first
    | (refine Go.mk ?_; conv => whnf)
    | refine Need.go ?_ ?_
    | refine Br.dec (fun _ => ?_) (fun _ => ?_)
    | refine Br.go (fun _ => ?_) (fun _ => ?_)
    | refine draw_go hT hP mixed ?_
  · rw [w64 (by omega) (by omega)]; omega
  · exact hw0
  · rename_i h1 h2
    refine .mk [] [] _ rfl rfl rfl rfl rfl rfl (imm_int ?_)
    show _ = signedF n b
    unfold signedF
    rw [if_pos h1, if_pos (by rw [h2]; rfl)]
  · rename_i h1 h2
    refine .mk [] [] _ rfl rfl rfl rfl rfl rfl (imm_int ?_)
    show _ = signedF n b
    unfold signedF
    rw [if_pos h1, if_neg (by simpa using h2)]
  · rename_i h1
    refine .mk [] [] _ rfl rfl rfl rfl rfl rfl (imm_int ?_)
    show _ = signedF n b
    unfold signedF
    rw [if_neg h1]

def signed2F (l : List Int) : Int := if l.length = 0 then 0 else IntKind.i64.wrap (of2F (l.take (l.length - 1)) - shl .i64 (l.getD (l.length - 1) 0) ((l.length - 1 : Nat) : Int))
def signed2S : PSpec := ⟨[gl], fun (l, _) => (some (List.length l ≤ 1000000), I (signed2F l), [])⟩
theorem signed2_ok : Good Try.prog 35 signed2S.spec := by
  have hT := tab_ok (fs := [(18, of2S.spec)]) tree_ok
  have hP : SpecsOk Try.prog (tab tree [(18, of2S.spec)]) := specs_cons of2_ok specs_nil
  refine signed2S.good (fn := Try.f35) hT hP Try.func35 (by kernel_rfl) rfl fun (l : List Int) hp => ?_
  have hp : l.length ≤ 1000000 := hp _ rfl
  have hw : IntKind.i64.wrap ((l.length : Int) - 1) = (l.length : Int) - 1 := w64 (by omega) (by omega)
  repeat' first
    | (refine Go.mk ?_; conv => whnf)
    | refine Need.go ?_ ?_
    | refine Br.dec (fun _ => ?_) (fun _ => ?_)
    | refine Br.go (fun _ => ?_) (fun _ => ?_)
    | refine draw_go hT hP mixed ?_
  · rename_i h0
    refine .mk [] [] _ rfl rfl rfl rfl rfl rfl (imm_int ?_)
    show 0 = signed2F l
    unfold signed2F
    rw [if_pos (by omega)]
  · rw [hw]; omega
  · show ((l.take _).drop 0).length ≤ _
    simp only [List.length_drop, List.length_take]
    omega
  · rw [hw]; omega
  · rw [hw]; omega
  · rename_i h0
    refine .mk [] [] _ rfl rfl rfl rfl rfl rfl (imm_int ?_)
    have e : (((l.length : Int)) - 1) = ((l.length - 1 : Nat) : Int) := by omega
    have e1 : (((l.length - 1 : Nat) : Int)).toNat = l.length - 1 := by omega
    show IntKind.i64.wrap (of2F ((l.take (IntKind.i64.wrap ((l.length : Int) - 1)).toNat).drop 0) - shl .i64 (l.getD (IntKind.i64.wrap ((l.length : Int) - 1)).toNat 0) (IntKind.i64.wrap ((l.length : Int) - 1))) = signed2F l
    unfold signed2F
    rw [if_neg (by omega), hw, e, e1, List.drop_zero]

def turnL (n : Int) : Nat → Int
  | 0 => 0
  | i + 1 => lor .i64 (shl .i64 (turnL n i) 1) (land .i64 (shr .i64 n i) 1)
def turnS : PSpec := ⟨[gi, gi], fun (n, b, _) => (none, I (turnL n (widthF b).toNat), [])⟩
theorem turn_ok : Good Try.prog 36 turnS.spec := by
  have hT := tab_ok (fs := [(85, widthS.spec)]) tree_ok
  have hP : SpecsOk Try.prog (tab tree [(85, widthS.spec)]) := specs_cons width_ok specs_nil
  refine turnS.good (fn := Try.f36) hT hP Try.func36 (by kernel_rfl) rfl fun (n b : Int) _ => ?_
  obtain ⟨hw0, hw1⟩ := widthF_in b
  repeat' first
    | (refine Go.mk ?_; conv => whnf)
    | refine Need.go ?_ ?_
    | refine Br.dec (fun _ => ?_) (fun _ => ?_)
    | refine Br.go (fun _ => ?_) (fun _ => ?_)
  refine loop_go hT hP (X := Int × Int) (fun (i, out) => mkSt 21 [(0, I n), (5, I out), (8, I (widthF b)), (9, I i)] [])
    (fun (i, out) => 0 ≤ i ∧ i ≤ widthF b ∧ out = turnL n i.toNat) (fun (i, _) => (widthF b - i).toNat) (0, 0) (Le.mk [] [] rfl rfl rfl ?_) ?_ fun (i, out) hi => ?_
  rotate_right
  repeat' first
    | (refine Go.mk ?_; conv => whnf)
    | refine Need.go ?_ ?_
    | refine Br.dec (fun _ => ?_) (fun _ => ?_)
    | refine Br.go (fun _ => ?_) (fun _ => ?_)
  · decide
  · exact hi.1
  · rename_i hlt
    obtain ⟨h1, h2, h3⟩ := hi
    have e : IntKind.i64.wrap (i + 1) = i + 1 := w64 (by omega) (by omega)
    apply Exists.intro (_, _)
    refine And.intro ?_ (And.intro ?_ (Le.mk [] [] rfl rfl ?hh ?ht))
    case hh => exact rfl
    case ht => repeat' first | exact trivial | exact ⟨rfl, rfl⟩ | refine And.intro ?_ ?_
    · show 0 ≤ IntKind.i64.wrap (i + 1) ∧ IntKind.i64.wrap (i + 1) ≤ widthF b ∧ lor .i64 (shl .i64 out 1) (land .i64 (shr .i64 n i) 1) = turnL n (IntKind.i64.wrap (i + 1)).toNat
      rw [e]
      refine ⟨by omega, by omega, ?_⟩
      have e1 : (i + 1).toNat = i.toNat + 1 := by omega
      have e2 : ((i.toNat : Nat) : Int) = i := by omega
      rw [e1, h3, turnL, e2]
    · show (widthF b - IntKind.i64.wrap (i + 1)).toNat < (widthF b - i).toNat
      rw [e]
      omega
  · obtain ⟨h1, h2, h3⟩ := hi
    refine .mk [] [] _ rfl rfl rfl rfl rfl rfl (imm_int ?_)
    have e : i = widthF b := by omega
    rw [h3, e]
  · repeat' first | exact trivial | exact ⟨rfl, rfl⟩ | refine And.intro ?_ ?_
  · exact ⟨Int.le_refl _, hw0, rfl⟩

def pop : Nat → Nat → Nat
  | 0, _ => 0
  | k + 1, n => n % 2 + pop k (n / 2)
theorem pop_zero : ∀ k, pop k 0 = 0
  | 0 => rfl
  | k + 1 => by simp [pop, pop_zero k]
theorem pop_and : ∀ (k n : Nat), 0 < n → n < 2 ^ k → pop k (n &&& (n - 1)) + 1 = pop k n
  | 0, n, h0, h1 => by simp at h1; omega
  | k + 1, n, h0, h1 => by
    unfold pop
    rw [Nat.and_div_two]
    have hm : (n &&& (n - 1)) % 2 = 0 := by
      have := @Nat.and_mod_two_eq_one n (n - 1)
      omega
    rw [hm]
    rw [Nat.pow_succ] at h1
    rcases Nat.mod_two_eq_zero_or_one n with hr | hr
    · have e : (n - 1) / 2 = n / 2 - 1 := by omega
      rw [e, hr]
      have := pop_and k (n / 2) (by omega) (by omega)
      omega
    · have e : (n - 1) / 2 = n / 2 := by omega
      rw [e, hr, Nat.and_self]
      omega
def countS : PSpec := ⟨[gi], fun (n, _) => (none, I ((pop 62 (u64 n % 2 ^ 62) : Nat) : Int), [])⟩
theorem pop_le : ∀ k n, pop k n ≤ k
  | 0, _ => Nat.le_refl _
  | k + 1, n => by have := pop_le k (n / 2); unfold pop; omega
theorem count_ok : Good Try.prog 37 countS.spec := by
  have hT := tab_ok (fs := [(33, lowS.spec)]) tree_ok
  have hP : SpecsOk Try.prog (tab tree [(33, lowS.spec)]) := specs_cons low_ok specs_nil
  refine countS.good (fn := Try.f37) hT hP Try.func37 (by kernel_rfl) rfl fun (n : Int) _ => ?_
  have hl : lowF n 62 = ((u64 n % 2 ^ 62 : Nat) : Int) := lowF_eq n 62
  have hlt : u64 n % 2 ^ 62 < 2 ^ 62 := Nat.mod_lt _ (by omega)
  repeat' first
    | (refine Go.mk ?_; conv => whnf)
    | refine Need.go ?_ ?_
    | refine Br.dec (fun _ => ?_) (fun _ => ?_)
    | refine Br.go (fun _ => ?_) (fun _ => ?_)
  refine loop_go hT hP (X := Int × Int) (fun (x, c) => mkSt 15 [(0, I x), (3, I c)] [])
    (fun (x, c) => ∃ m : Nat, x = (m : Int) ∧ m < 2 ^ 62 ∧ 0 ≤ c ∧ c + (pop 62 m : Nat) = ((pop 62 (u64 n % 2 ^ 62) : Nat) : Int)) (fun (x, _) => x.toNat) (lowF n 62, 0) (Le.mk [] [] rfl rfl rfl ?_) ?_ fun (x, c) hi => ?_
  rotate_right
  repeat' first
    | (refine Go.mk ?_; conv => whnf)
    | refine Need.go ?_ ?_
    | refine Br.dec (fun _ => ?_) (fun _ => ?_)
    | refine Br.go (fun _ => ?_) (fun _ => ?_)
  · rename_i hgt
    obtain ⟨m, rfl, h2, h3, h4⟩ := hi
    have hm : 0 < m := by omega
    have e0 : IntKind.i64.wrap ((m : Int) - 1) = ((m - 1 : Nat) : Int) := by rw [w64 (by omega) (by omega)]; omega
    have ub : m &&& (m - 1) ≤ m - 1 := Nat.and_le_right
    have e1 : land .i64 (m : Int) (IntKind.i64.wrap ((m : Int) - 1)) = ((m &&& (m - 1) : Nat) : Int) := by
      rw [e0, land_nat _ _ (by rw [u64_nat (by omega), u64_nat (by omega)]; omega), u64_nat (by omega), u64_nat (by omega)]
    have hpop := pop_and 62 m hm h2
    have hple := pop_le 62 m
    have hple2 := pop_le 62 (u64 n % 2 ^ 62)
    apply Exists.intro (_, _)
    refine And.intro ?_ (And.intro ?_ (Le.mk [] [] rfl rfl ?hh ?ht))
    case hh => exact rfl
    case ht => repeat' first | exact trivial | exact ⟨rfl, rfl⟩ | refine And.intro ?_ ?_
    · refine ⟨m &&& (m - 1), e1, by omega, ?_, ?_⟩
      · rw [w64 (by omega) (by omega)]; omega
      · rw [w64 (by omega) (by omega)]; omega
    · show (land .i64 (m : Int) (IntKind.i64.wrap ((m : Int) - 1))).toNat < ((m : Int)).toNat
      rw [e1]
      omega
  · obtain ⟨m, rfl, h2, h3, h4⟩ := hi
    refine .mk [] [] _ rfl rfl rfl rfl rfl rfl (imm_int ?_)
    have e : m = 0 := by omega
    subst e
    rw [pop_zero] at h4
    show c = _
    omega
  · repeat' first | exact trivial | exact ⟨rfl, rfl⟩ | refine And.intro ?_ ?_
  · exact ⟨u64 n % 2 ^ 62, hl, hlt, Int.le_refl _, by omega⟩



/-- reversed as far as i, from both ends -/
def revTo (l : List Int) (i : Nat) : List Int := (List.range l.length).map fun p => if p < i ∨ l.length ≤ p + i then l.getD (l.length - 1 - p) 0 else l.getD p 0
theorem revTo_len (l : List Int) (i : Nat) : (revTo l i).length = l.length := by simp [revTo]
theorem revTo_get (l : List Int) (i p : Nat) (h : p < l.length) : (revTo l i).getD p 0 = if p < i ∨ l.length ≤ p + i then l.getD (l.length - 1 - p) 0 else l.getD p 0 := by
  simp [revTo, h]
theorem ext_getD {a b : List Int} (hl : a.length = b.length) (h : ∀ p, p < a.length → a.getD p 0 = b.getD p 0) : a = b := by
  apply List.ext_getElem hl
  intro p h1 h2
  have := h p h1
  simpa [h1, h2] using this
theorem revTo_0 (l : List Int) : revTo l 0 = l := by
  refine ext_getD (revTo_len l 0) fun p hp => ?_
  rw [revTo_len] at hp
  rw [revTo_get l 0 p hp, if_neg (by omega)]
theorem revTo_end (l : List Int) (i : Nat) (h : l.length ≤ i + i + 1) : revTo l i = l.reverse := by
  refine ext_getD (by rw [revTo_len, List.length_reverse]) fun p hp => ?_
  rw [revTo_len] at hp
  rw [revTo_get l i p hp]
  have e : l.reverse.getD p 0 = l.getD (l.length - 1 - p) 0 := by
    have h1 : l.length - 1 - p < l.length := by omega
    simp [hp, h1]
  rw [e]
  split
  · rfl
  · have : l.length - 1 - p = p := by omega
    rw [this]
theorem revTo_step (l : List Int) (i j : Nat) (hj : j + i + 1 = l.length) (h : i < j) : ((revTo l i).set i ((revTo l i).getD j 0)).set j ((revTo l i).getD i 0) = revTo l (i + 1) := by
  refine ext_getD (by simp [revTo_len]) fun p hp => ?_
  have hp : p < l.length := by simpa [revTo_len] using hp
  rw [revTo_get l (i + 1) p hp, revTo_get l i j (by omega), revTo_get l i i (by omega), if_neg (by omega), if_neg (by omega)]
  have e : (((revTo l i).set i (l.getD j 0)).set j (l.getD i 0)).getD p 0 = if p = j then l.getD i 0 else if p = i then l.getD j 0 else (revTo l i).getD p 0 := by
    simp only [List.getD_eq_getElem?_getD, List.getElem?_set, List.length_set, revTo_len]
    by_cases h1 : j = p
    · subst h1; simp [hp]
    · by_cases h2 : i = p
      · subst h2
        have : ¬ i = j := by omega
        simp [h1, hp, this]
      · have h1' : ¬ p = j := fun e => h1 e.symm
        have h2' : ¬ p = i := fun e => h2 e.symm
        simp [h1, h2, h1', h2']
  rw [e, revTo_get l i p hp]
  by_cases h1 : p = j
  · subst h1
    rw [if_pos rfl, if_pos (by omega)]
    congr 1; omega
  · rw [if_neg h1]
    by_cases h2 : p = i
    · subst h2
      rw [if_pos rfl, if_pos (by omega)]
      congr 1; omega
    · rw [if_neg h2]
      by_cases h3 : p < i ∨ l.length ≤ p + i
      · rw [if_pos h3, if_pos (by omega)]
      · rw [if_neg h3, if_neg (by omega)]

def revS : WSpec := ⟨List Int, fun _ => [.c (.own 0)], fun l => [.arr (.int .i64) l], fun a b => (match a, b with | [.c (.own 0)], [.arr (.int .i64) l] => some l | _, _ => none), fun l => (some (List.length l ≤ 1000000), .tup [], [some (.arr (.int .i64) l.reverse)], [])⟩
theorem rev_ok : Good Try.prog 32 revS.spec := by
  have hT := tab_ok (fs := []) tree_ok
  have hP : SpecsOk Try.prog (tab tree []) := specs_nil
  refine revS.good (fn := Try.f32) hT hP Try.func32 (by kernel_rfl) rfl ?_ fun (l : List Int) hp => ?_
  · intro a b x h
    simp only [revS] at h
    split at h
    · injection h with h; subst h; exact ⟨rfl, rfl⟩
    · cases h
  have hp : l.length ≤ 1000000 := hp _ rfl
  have hw : IntKind.i64.wrap ((l.length : Int) - 1) = (l.length : Int) - 1 := w64 (by omega) (by omega)
  repeat' first
    | (refine Go.mk ?_; conv => whnf)
    | refine Need.go ?_ ?_
    | refine Br.dec (fun _ => ?_) (fun _ => ?_)
    | refine Br.go (fun _ => ?_) (fun _ => ?_)
    | refine draw_go hT hP mixed ?_
  refine loop_go hT hP (X := Int × Int × List Int) (fun (i, j, r) => mkSt 28 [(0, .cell (.own 0)), (2, I i), (3, I j)] [some (.arr (.int .i64) r)])
    (fun (i, j, r) => ∃ k : Nat, i = k ∧ j = (l.length : Int) - 1 - k ∧ k + k ≤ l.length + 1 ∧ r = revTo l k) (fun (i, _, _) => (l.length - i).toNat) (0, IntKind.i64.wrap ((l.length : Int) - 1), l) (Le.mk [] [0] rfl rfl rfl ?_) ?_ fun (i, j, r) hi => ?_
  rotate_right
  repeat' first
    | (refine Go.mk ?_; conv => whnf)
    | refine Need.go ?_ ?_
    | refine Br.dec (fun _ => ?_) (fun _ => ?_)
    | refine Br.go (fun _ => ?_) (fun _ => ?_)
    | refine draw_go hT hP mixed ?_
  any_goals (obtain ⟨k, rfl, rfl, hk, rfl⟩ := hi; simp only [List.length_set, revTo_len]; omega)
  · rename_i hlt
    obtain ⟨k, rfl, rfl, hk, rfl⟩ := hi
    have e1 : IntKind.i64.wrap ((k : Int) + 1) = ((k + 1 : Nat) : Int) := by rw [w64 (by omega) (by omega)]; omega
    have e2 : IntKind.i64.wrap ((l.length : Int) - 1 - k - 1) = (l.length : Int) - 1 - ((k + 1 : Nat) : Int) := by rw [w64 (by omega) (by omega)]; omega
    have e3 : ((l.length : Int) - 1 - k).toNat = l.length - 1 - k := by omega
    apply Exists.intro (_, _, _)
    refine And.intro ?_ (And.intro ?_ (Le.mk [] [0] rfl rfl ?hh ?ht))
    case hh => exact rfl
    case ht => repeat' first | exact trivial | exact ⟨rfl, rfl⟩ | refine And.intro ?_ ?_
    · refine ⟨k + 1, e1, e2, by omega, ?_⟩
      have := revTo_step l k (l.length - 1 - k) (by omega) (by omega)
      rw [← this, e3]
      rfl
    · show (l.length - IntKind.i64.wrap ((k : Int) + 1)).toNat < (l.length - (k : Int)).toNat
      rw [e1]
      omega
  · obtain ⟨k, rfl, rfl, hk, rfl⟩ := hi
    refine .mk [] [0] _ rfl rfl rfl rfl rfl ?_ rfl
    show [some (Blk.arr (.int .i64) (revTo l k))] = [some (Blk.arr (.int .i64) l.reverse)]
    rw [revTo_end l k (by omega)]
  · repeat' first | exact trivial | exact ⟨rfl, rfl⟩ | refine And.intro ?_ ?_
  · refine ⟨0, rfl, ?_, by omega, (revTo_0 l).symm⟩
    rw [hw]; omega

end Go.Proofs.Ytjggjnjmnmdgaaa
