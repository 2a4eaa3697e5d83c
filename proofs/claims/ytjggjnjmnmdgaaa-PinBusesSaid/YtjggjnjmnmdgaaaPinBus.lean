/- Buses of eight lines: pin.Bus, pin.Drive, and bakelaw1.PinBuses. -/
import Derived.Test.YtjggjnjmnmdgaaaPin
import Derived.Test.YtjggjnjmnmdgaaaChip
namespace Go.Proofs.Ytjggjnjmnmdgaaa
open Go.Fw
set_option linter.unusedVariables false
set_option linter.unusedSimpArgs false
set_option maxRecDepth 100000

abbrev gll : Sig := ⟨false, .sl (.ints .i64 8)⟩
def col (l : List (List Int)) (i : Nat) : List Int := l.map fun r => r.getD i 0
def vL (l : List (List Int)) (i : Nat) : Int := lineF (col l i)
theorem vL_in (l : List (List Int)) (i : Nat) : vL l i = 0 ∨ vL l i = 1 ∨ vL l i = 2 ∨ vL l i = 3 := by
  unfold vL lineF codeF
  split <;> simp
def dB (l : List (List Int)) (i : Nat) : Nat := if vL l i = 0 then 0 else 1
def fB (l : List (List Int)) (i : Nat) : Nat := if vL l i = 2 then 1 else 0
def cB (l : List (List Int)) (i : Nat) : Nat := if vL l i = 3 then 1 else 0
def bsum (g : Nat → Nat) : Nat → Nat
  | 0 => 0
  | k + 1 => bsum g k + g k * 2 ^ k
theorem bsum_lt {g : Nat → Nat} (hg : ∀ i, g i ≤ 1) : ∀ k, bsum g k < 2 ^ k
  | 0 => by simp [bsum]
  | k + 1 => by
    have ih := bsum_lt hg k
    have := Nat.mul_le_mul_right (2 ^ k) (hg k)
    rw [bsum, Nat.pow_succ]; omega
theorem bsum_or {g : Nat → Nat} (hg : ∀ i, g i ≤ 1) (k : Nat) (h : g k = 1) : bsum g k ||| 2 ^ k = bsum g (k + 1) := by
  have := Nat.two_pow_add_eq_or_of_lt (bsum_lt hg k) 1
  rw [Nat.mul_one] at this
  rw [Nat.or_comm, ← this, bsum, h]; omega
theorem bsum_zero {g : Nat → Nat} (k : Nat) (h : g k = 0) : bsum g (k + 1) = bsum g k := by rw [bsum, h]; omega
theorem lor_pow {a k : Nat} (h : a < 2 ^ k) (hk : k ≤ 8) : lor .i64 (a : Int) (shl .i64 1 (k : Int)) = ((a ||| 2 ^ k : Nat) : Int) := by
  have h2 : 2 ^ k ≤ 2 ^ 8 := pow_le hk
  have e : shl .i64 1 (k : Int) = ((2 ^ k : Nat) : Int) := by
    have := shl_eq (x := 1) (b := k) (by omega) (by omega)
    simpa using this
  have h3 : a ||| 2 ^ k < 2 ^ 9 := Nat.or_lt_two_pow (by omega) (by omega)
  rw [e, lor_nat _ _ (by rw [u64_nat (by omega), u64_nat (by omega)]; omega), u64_nat (by omega), u64_nat (by omega)]
def mapI (g : Nat → Nat) (k : Nat) : List Int := (List.range k).map fun i => ((g i : Nat) : Int)
theorem mapI_succ (g : Nat → Nat) (k : Nat) : mapI g (k + 1) = mapI g k ++ [((g k : Nat) : Int)] := by simp [mapI, List.range_succ]
theorem mapI_len (g : Nat → Nat) (k : Nat) : (mapI g k).length = k := by simp [mapI]
theorem of2F_map {g : Nat → Nat} (hg : ∀ i, g i ≤ 1) : of2F (mapI g 8) = ((bsum g 8 : Nat) : Int) := by
  have h0 := hg 0; have h1 := hg 1; have h2 := hg 2; have h3 := hg 3; have h4 := hg 4; have h5 := hg 5; have h6 := hg 6; have h7 := hg 7
  have e : bsum g 8 = g 0 * 1 + g 1 * 2 + g 2 * 4 + g 3 * 8 + g 4 * 16 + g 5 * 32 + g 6 * 64 + g 7 * 128 := by simp [bsum]
  have hb : mapI g 8 = bitsN (bsum g 8) 8 := by
    unfold mapI bitsN
    apply List.map_congr_left
    intro i hi
    have hi : i < 8 := List.mem_range.1 hi
    have : g i = bsum g 8 / 2 ^ i % 2 := by
      rw [e]
      match i, hi with
      | 0, _ => show g 0 = _ / 1 % 2; omega
      | 1, _ => show g 1 = _ / 2 % 2; omega
      | 2, _ => show g 2 = _ / 4 % 2; omega
      | 3, _ => show g 3 = _ / 8 % 2; omega
      | 4, _ => show g 4 = _ / 16 % 2; omega
      | 5, _ => show g 5 = _ / 32 % 2; omega
      | 6, _ => show g 6 = _ / 64 % 2; omega
      | 7, _ => show g 7 = _ / 128 % 2; omega
    rw [this]
  rw [hb, of2F_bits _ _ (by omega), Nat.mod_eq_of_lt (bsum_lt hg 8)]
theorem col_take {l : List (List Int)} {j i : Nat} (h : j < l.length) : col (l.take (j + 1)) i = col (l.take j) i ++ [(l.getD j (List.replicate 8 0)).getD i 0] := by
  unfold col
  rw [List.take_succ_eq_append_getElem h, List.map_append]
  simp [h]
theorem allF_snoc (l : List Int) (a : Int) : allF (l ++ [a]) = joinF (allF l) a := by simp [allF]
theorem tup3_int {a b c d e f : Int} (h1 : a = d) (h2 : b = e) (h3 : c = f) : AV.tup [I1 a, I1 b, I1 c] = AV.tup [I1 d, I1 e, I1 f] := by rw [h1, h2, h3]

def busS : PSpec := ⟨[gll], fun (l, _) => (some (List.length l ≤ 4398046511104), .tup [I1 (bsum (dB l) 8 : Nat), I1 (bsum (fB l) 8 : Nat), I1 (bsum (cB l) 8 : Nat)], [])⟩
theorem bus_ok : Good Try.prog 52 busS.spec := by
  have hT := tab_ok (fs := [(69, joinS.spec)]) tree_ok
  have hP : SpecsOk Try.prog (tab tree [(69, joinS.spec)]) := specs_cons join_ok specs_nil
  refine busS.good (fn := Try.f52) hT hP Try.func52 (by kernel_rfl) rfl fun (l : List (List Int)) hp => ?_
  have hp : l.length ≤ 4398046511104 := hp _ rfl
  have hd : ∀ i, dB l i ≤ 1 := fun i => by unfold dB; split <;> omega
  have hf : ∀ i, fB l i ≤ 1 := fun i => by unfold fB; split <;> omega
  have hc : ∀ i, cB l i ≤ 1 := fun i => by unfold cB; split <;> omega
  repeat' first
    | (refine Go.mk ?_; conv => whnf)
    | refine Need.go ?_ ?_
    | refine NilG.go (fun _ => ?_) (fun _ => ?_)
    | refine Br.dec (fun _ => ?_) (fun _ => ?_)
    | refine Br.go (fun _ => ?_) (fun _ => ?_)
    | refine draw_go hT hP mixed ?_
    | refine round_go hT hP ?_
  refine loop_go hT hP (X := Int × Int × Int × Int) (fun (i, d, f, c) => St.mk [.cell (.ro (.ints .i64 8) l), .dead, .dead, .dead, .dead, I d, I f, I c, .dead, .dead, .dead, .dead, I i, .dead, .dead, .dead, .dead, .dead, .dead, .dead, .dead, .dead, .dead, .dead, .dead, .dead, .dead, .dead, .dead, .dead, .dead, .dead, .dead, .dead, .dead, .dead, .dead, .dead, .dead, .dead, .dead, .dead, .dead, .dead, .dead, .dead, .dead, .dead, .dead, .dead, .dead, .dead, .dead, .dead, .dead, .dead, .dead, .dead] [])
    (fun (i, d, f, c) => ∃ k : Nat, i = k ∧ k ≤ 8 ∧ d = ((bsum (dB l) k : Nat) : Int) ∧ f = ((bsum (fB l) k : Nat) : Int) ∧ c = ((bsum (cB l) k : Nat) : Int)) (fun (i, _) => (8 - i).toNat) (0, 0, 0, 0) (Le.mk [] [] rfl rfl ?_ ?_) ?_ fun (i, d, f, c) hi => ?_
  · exact rfl
  · repeat' first | exact trivial | exact ⟨rfl, rfl⟩ | refine And.intro ?_ ?_
  · exact ⟨0, rfl, by omega, rfl, rfl, rfl⟩
  obtain ⟨k, rfl, hk, rfl, rfl, rfl⟩ := hi
  repeat' first
    | (refine Go.mk ?_; conv => whnf)
    | refine Need.go ?_ ?_
    | refine NilG.go (fun _ => ?_) (fun _ => ?_)
    | refine Br.dec (fun _ => ?_) (fun _ => ?_)
    | refine Br.go (fun _ => ?_) (fun _ => ?_)
    | refine draw_go hT hP mixed ?_
    | refine round_go hT hP ?_
  · rename_i hlt
    have hk2 : k < 8 := by omega
    have e : IntKind.i64.wrap ((k : Int) + 1) = ((k + 1 : Nat) : Int) := by rw [w64 (by omega) (by omega)]; omega
    refine loop_go hT hP (X := Int × Int) (fun (j, o) => St.mk [.cell (.ro (.ints .i64 8) l), .dead, .dead, .dead, .dead, I (bsum (dB l) k : Nat), I (bsum (fB l) k : Nat), I (bsum (cB l) k : Nat), I (k : Int), I o, .dead, .dead, I (k : Int), .dead, .dead, .cell (.ro (.ints .i64 8) l), I l.length, I j, .dead, .dead, .dead, .dead, .dead, .dead, .dead, .dead, .dead, .dead, .dead, .dead, .dead, .dead, .dead, .dead, .dead, .dead, .dead, .dead, .dead, .dead, .dead, .dead, .dead, .dead, .dead, .dead, .dead, .dead, .dead, .dead, .dead, .dead, .dead, .dead, .dead, .dead, .dead, .dead] [])
      (fun (j, o) => ∃ m : Nat, j = m ∧ m ≤ l.length ∧ o = allF (col (l.take m) k)) (fun (j, _) => (l.length - j).toNat) (0, 2) (Le.mk [] [] rfl rfl ?_ ?_) ?_ fun (j, o) hj => ?_
    · exact rfl
    · repeat' first | exact trivial | exact ⟨rfl, rfl⟩ | refine And.intro ?_ ?_
    · exact ⟨0, rfl, by omega, rfl⟩
    obtain ⟨m, rfl, hm, rfl⟩ := hj
    repeat' first
      | (refine Go.mk ?_; conv => whnf)
      | refine Need.go ?_ ?_
      | refine NilG.go (fun _ => ?_) (fun _ => ?_)
      | refine Br.dec (fun _ => ?_) (fun _ => ?_)
      | refine Br.go (fun _ => ?_) (fun _ => ?_)
      | refine draw_go hT hP mixed ?_
      | refine round_go hT hP ?_
    · omega
    · exact ⟨by omega, by omega⟩
    · omega
    · rename_i hml
      have hm2 : m < l.length := by omega
      have e2 : IntKind.i64.wrap ((m : Int) + 1) = ((m + 1 : Nat) : Int) := by rw [w64 (by omega) (by omega)]; omega
      apply Exists.intro (_, _)
      refine And.intro ?_ (And.intro ?_ (Le.mk [] [] rfl rfl ?hh ?ht))
      case hh => exact rfl
      case ht => repeat' first | exact trivial | exact ⟨rfl, rfl⟩ | refine And.intro ?_ ?_
      · refine ⟨m + 1, e2, by omega, ?_⟩
        rw [col_take hm2, allF_snoc]; rfl
      · show (l.length - IntKind.i64.wrap ((m : Int) + 1)).toNat < (l.length - (m : Int)).toNat
        rw [e2]; omega
    all_goals try omega
    all_goals
      have hv : allF (col (l.take m) k) = vL l k := by
        have hml : m = l.length := by omega
        subst hml
        rw [List.take_length]
        exact allF_line _
    · rename_i h1
      have h1 : allF (col (l.take m) k) = 1 := h1
      rw [hv] at h1
      have g1 : dB l k = 1 := by unfold dB; rw [if_neg (by omega)]
      have g2 : fB l k = 0 := by unfold fB; rw [if_neg (by omega)]
      have g3 : cB l k = 0 := by unfold cB; rw [if_neg (by omega)]
      apply Exists.intro (_, _, _, _)
      refine And.intro ?_ (And.intro ?_ (Le.mk [] [] rfl rfl ?hh ?ht))
      case hh => exact rfl
      case ht => repeat' first | exact trivial | exact ⟨rfl, rfl⟩ | refine And.intro ?_ ?_
      · refine ⟨k + 1, e, by omega, ?_, ?_, ?_⟩
        · show lor .i64 ((bsum (dB l) k : Nat) : Int) (shl .i64 1 (k : Int)) = _
          rw [lor_pow (bsum_lt hd k) hk, bsum_or hd k g1]
        · rw [bsum_zero k g2]
        · rw [bsum_zero k g3]
      · show (8 - IntKind.i64.wrap ((k : Int) + 1)).toNat < (8 - (k : Int)).toNat
        rw [e]; omega
    · rename_i h1 h2
      have h2 : allF (col (l.take m) k) = 2 := h2
      rw [hv] at h2
      have g1 : dB l k = 1 := by unfold dB; rw [if_neg (by omega)]
      have g2 : fB l k = 1 := by unfold fB; rw [if_pos (by omega)]
      have g3 : cB l k = 0 := by unfold cB; rw [if_neg (by omega)]
      apply Exists.intro (_, _, _, _)
      refine And.intro ?_ (And.intro ?_ (Le.mk [] [] rfl rfl ?hh ?ht))
      case hh => exact rfl
      case ht => repeat' first | exact trivial | exact ⟨rfl, rfl⟩ | refine And.intro ?_ ?_
      · refine ⟨k + 1, e, by omega, ?_, ?_, ?_⟩
        · show lor .i64 ((bsum (dB l) k : Nat) : Int) (shl .i64 1 (k : Int)) = _
          rw [lor_pow (bsum_lt hd k) hk, bsum_or hd k g1]
        · show lor .i64 ((bsum (fB l) k : Nat) : Int) (shl .i64 1 (k : Int)) = _
          rw [lor_pow (bsum_lt hf k) hk, bsum_or hf k g2]
        · rw [bsum_zero k g3]
      · show (8 - IntKind.i64.wrap ((k : Int) + 1)).toNat < (8 - (k : Int)).toNat
        rw [e]; omega
    · rename_i h1 h2 h3
      have h3 : allF (col (l.take m) k) = 3 := h3
      rw [hv] at h3
      have g1 : dB l k = 1 := by unfold dB; rw [if_neg (by omega)]
      have g2 : fB l k = 0 := by unfold fB; rw [if_neg (by omega)]
      have g3 : cB l k = 1 := by unfold cB; rw [if_pos (by omega)]
      apply Exists.intro (_, _, _, _)
      refine And.intro ?_ (And.intro ?_ (Le.mk [] [] rfl rfl ?hh ?ht))
      case hh => exact rfl
      case ht => repeat' first | exact trivial | exact ⟨rfl, rfl⟩ | refine And.intro ?_ ?_
      · refine ⟨k + 1, e, by omega, ?_, ?_, ?_⟩
        · show lor .i64 ((bsum (dB l) k : Nat) : Int) (shl .i64 1 (k : Int)) = _
          rw [lor_pow (bsum_lt hd k) hk, bsum_or hd k g1]
        · rw [bsum_zero k g2]
        · show lor .i64 ((bsum (cB l) k : Nat) : Int) (shl .i64 1 (k : Int)) = _
          rw [lor_pow (bsum_lt hc k) hk, bsum_or hc k g3]
      · show (8 - IntKind.i64.wrap ((k : Int) + 1)).toNat < (8 - (k : Int)).toNat
        rw [e]; omega
    · rename_i h1 h2 h3
      have h1 : ¬ allF (col (l.take m) k) = 1 := h1
      have h2 : ¬ allF (col (l.take m) k) = 2 := h2
      have h3 : ¬ allF (col (l.take m) k) = 3 := h3
      rw [hv] at h1 h2 h3
      have h0 := vL_in l k
      have g1 : dB l k = 0 := by unfold dB; rw [if_pos (by omega)]
      have g2 : fB l k = 0 := by unfold fB; rw [if_neg (by omega)]
      have g3 : cB l k = 0 := by unfold cB; rw [if_neg (by omega)]
      apply Exists.intro (_, _, _, _)
      refine And.intro ?_ (And.intro ?_ (Le.mk [] [] rfl rfl ?hh ?ht))
      case hh => exact rfl
      case ht => repeat' first | exact trivial | exact ⟨rfl, rfl⟩ | refine And.intro ?_ ?_
      · refine ⟨k + 1, e, by omega, ?_, ?_, ?_⟩
        · rw [bsum_zero k g1]
        · rw [bsum_zero k g2]
        · rw [bsum_zero k g3]
      · show (8 - IntKind.i64.wrap ((k : Int) + 1)).toNat < (8 - (k : Int)).toNat
        rw [e]; omega
  · refine .mk [] [] _ rfl rfl rfl rfl rfl rfl ?_
    obtain rfl : k = 8 := by omega
    rfl

end Go.Proofs.Ytjggjnjmnmdgaaa
