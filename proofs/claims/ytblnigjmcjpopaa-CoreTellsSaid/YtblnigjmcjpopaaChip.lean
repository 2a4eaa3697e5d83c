/- What all chips share: numbers in their form, states compared. -/
import Derived.Test.YtblnigjmcjpopaaBaseLaw
import Derived.Test.YtblnigjmcjpopaaFw30
namespace Go.Proofs.Ytblnigjmcjpopaa
open Go.Fw
set_option linter.unusedVariables false
set_option linter.unusedSimpArgs false
set_option maxRecDepth 100000

abbrev gD : Sig := ⟨true, .pair (.sl (.int .i64)) (.sl (.int .u8))⟩
abbrev gC : Sig := ⟨true, .pair .str (.pair (.int .i64) (.pair (.int .i64) (.pair (.int .i64) (.sl (.int .u8)))))⟩
abbrev gb : Sig := ⟨false, .sl (.int .u8)⟩
abbrev Dv := List Int × List Int
abbrev Cv := ByteArray × Int × Int × Int × List Int

theorem lowF_mod (n b : Int) (h1 : 0 ≤ b) (h2 : b ≤ 62) : lowF n b = n % 2 ^ b.toNat := by
  rw [lowF_eq, widthF_id h1 h2]
  obtain ⟨k, rfl⟩ := Int.eq_ofNat_of_zero_le h1
  have hk : k ≤ 62 := by omega
  have e : (18446744073709551616 : Int) = ((2 ^ k : Nat) : Int) * ((2 ^ (64 - k) : Nat) : Int) := by
    have : (18446744073709551616 : Nat) = 2 ^ k * 2 ^ (64 - k) := by
      rw [← Nat.pow_add]
      have : k + (64 - k) = 64 := by omega
      rw [this]
    rw [← Int.natCast_mul, ← this]; rfl
  have e2 : (2 : Int) ^ k = ((2 ^ k : Nat) : Int) := by simp
  show ((u64 n % 2 ^ k : Nat) : Int) = n % 2 ^ k
  rw [e2, Int.natCast_emod]
  have : ((u64 n : Nat) : Int) = n % 18446744073709551616 := by unfold u64; omega
  rw [this]
  exact Int.emod_emod_of_dvd n ⟨_, e⟩

def lowM : PSpec := ⟨[gi, gi], fun (n, b, _) => (some (0 ≤ b ∧ b ≤ 62), I (n % 2 ^ b.toNat), [])⟩
theorem lowM_ok : Good Try.prog 70 lowM.spec := by
  have hT := tab_ok (fs := [(135, widthS.spec)]) tree_ok
  have hP : SpecsOk Try.prog (tab tree [(135, widthS.spec)]) := specs_cons width_ok specs_nil
  refine lowM.good (fn := Try.f70) hT hP Try.func70 (by kernel_rfl) rfl fun (a b : Int) hp => ?_
  have hp : 0 ≤ b ∧ b ≤ 62 := hp _ rfl
  repeat' first
    | (refine Go.mk ?_; conv => whnf)
    | refine Need.go ?_ ?_
    | refine NilG.go (fun _ => ?_) (fun _ => ?_)
    | refine Br.dec (fun _ => ?_) (fun _ => ?_)
    | refine Br.go (fun _ => ?_) (fun _ => ?_)
    | refine draw_go hT hP mixed ?_
    | refine round_go hT hP ?_
  · show 0 ≤ widthF b
    simp only [widthF, imax_eq]; omega
  · refine .mk [] [] _ rfl rfl rfl rfl rfl rfl (imm_int ?_)
    exact lowF_mod a b hp.1 hp.2

def modS : PSpec := ⟨[gi, gi], fun (n, m, _) => (some (0 < m ∧ m ≤ 4611686018427387904), I (n % m), [])⟩
theorem tmod_lt (n : Int) {m : Int} (h : 0 < m) : -m < n.tmod m ∧ n.tmod m < m := by
  constructor
  · have := Int.lt_tmod_of_pos n h; omega
  · exact Int.tmod_lt_of_pos n h
theorem mod_eq (n : Int) {m : Int} (h : 0 < m) (h2 : m ≤ 4611686018427387904) : (IntKind.i64.wrap (n.tmod m + m)).tmod m = n % m := by
  obtain ⟨h3, h4⟩ := tmod_lt n h
  rw [w64 (by omega) (by omega), Int.tmod_eq_emod_of_nonneg (by omega), Int.add_emod_right]
  by_cases hn : 0 ≤ n
  · rw [Int.tmod_eq_emod_of_nonneg hn, Int.emod_emod]
  · have e := Int.mul_tdiv_add_tmod n m
    rw [← Int.add_mul_emod_self_left (n.tmod m) m (n.tdiv m), Int.add_comm, e]
theorem mod_ok : Good Try.prog 76 modS.spec := by
  have hT := tab_ok (fs := []) tree_ok
  have hP : SpecsOk Try.prog (tab tree []) := specs_nil
  refine modS.good (fn := Try.f76) hT hP Try.func76 (by kernel_rfl) rfl fun (n m : Int) hp => ?_
  have hp : 0 < m ∧ m ≤ 4611686018427387904 := hp _ rfl
  repeat' first
    | (refine Go.mk ?_; conv => whnf)
    | refine Need.go ?_ ?_
    | refine NilG.go (fun _ => ?_) (fun _ => ?_)
    | refine Br.dec (fun _ => ?_) (fun _ => ?_)
    | refine Br.go (fun _ => ?_) (fun _ => ?_)
    | refine draw_go hT hP mixed ?_
    | refine round_go hT hP ?_
  · omega
  · omega
  · refine .mk [] [] _ rfl rfl rfl rfl rfl rfl (imm_int ?_)
    exact mod_eq n hp.1 hp.2

/-- numbers in their form -/
def formG (N : List Int) : List Int → Nat → List Int
  | [], _ => []
  | m :: ms, i => N.getD i 0 % m :: formG N ms (i + 1)
theorem formG_len (N : List Int) : ∀ (ms : List Int) (i : Nat), (formG N ms i).length = ms.length
  | [], _ => rfl
  | m :: ms, i => by simp [formG, formG_len N ms]
theorem formG_take (N : List Int) : ∀ (ms : List Int) (i k : Nat), k < ms.length → formG N (ms.take (k + 1)) i = formG N (ms.take k) i ++ [N.getD (i + k) 0 % ms.getD k 0]
  | m :: ms, i, 0, _ => by simp [formG]
  | m :: ms, i, k + 1, h => by
    have := formG_take N ms (i + 1) k (by simpa using h)
    simp only [List.take_succ_cons, formG, this, List.cons_append]
    have e : i + 1 + k = i + (k + 1) := by omega
    rw [e]; simp
def formK (N ms : List Int) (k : Nat) : List Int := formG N (ms.take k) 0 ++ List.replicate (ms.length - k) 0
theorem formK_len (N ms : List Int) {k : Nat} (h : k ≤ ms.length) : (formK N ms k).length = ms.length := by
  simp [formK, formG_len]; omega
theorem formK_set (N ms : List Int) {k : Nat} (h : k < ms.length) : (formK N ms k).set k (N.getD k 0 % ms.getD k 0) = formK N ms (k + 1) := by
  unfold formK
  have hl : (formG N (ms.take k) 0).length = k := by rw [formG_len, List.length_take]; omega
  have e : ms.length - k = (ms.length - (k + 1)) + 1 := by omega
  rw [e, List.replicate_succ, List.set_append, if_neg (by omega), hl, Nat.sub_self, List.set_cons_zero, formG_take N ms 0 k h]
  simp
theorem formK_same (N ms : List Int) {k : Nat} (h : k < ms.length) (h2 : N.length ≤ k) : formK N ms k = formK N ms (k + 1) := by
  rw [← formK_set N ms h]
  have : N.getD k 0 = 0 := by simp [h2]
  rw [this, Int.zero_emod]
  have hl : (formG N (ms.take k) 0).length = k := by rw [formG_len, List.length_take]; omega
  unfold formK
  have e : ms.length - k = (ms.length - (k + 1)) + 1 := by omega
  rw [e, List.replicate_succ, List.set_append, if_neg (by omega), hl, Nat.sub_self, List.set_cons_zero]

def formS : PSpec := ⟨[gD, gl], fun (d, ms, _) => (some (List.length ms ≤ 1000 ∧ (∀ m ∈ ms, 0 < m ∧ m ≤ 4611686018427387904)), .cell (.own 0), [.arr (.int .i64) (formG d.1 ms 0)])⟩
theorem form_ok : Good Try.prog 117 formS.spec := by
  have hT := tab_ok (fs := [(76, modS.spec)]) tree_ok
  have hP : SpecsOk Try.prog (tab tree [(76, modS.spec)]) := specs_cons mod_ok specs_nil
  refine formS.good (fn := Try.f117) hT hP Try.func117 (by kernel_rfl) rfl fun (d : Dv) (ms : List Int) hp => ?_
  obtain ⟨N, M⟩ := d
  obtain ⟨hp, hm⟩ : ms.length ≤ 1000 ∧ (∀ m ∈ ms, 0 < m ∧ m ≤ 4611686018427387904) := hp _ rfl
  repeat' first
    | (refine Go.mk ?_; conv => whnf)
    | refine Need.go ?_ ?_
    | refine NilG.go (fun _ => ?_) (fun _ => ?_)
    | refine Br.dec (fun _ => ?_) (fun _ => ?_)
    | refine Br.go (fun _ => ?_) (fun _ => ?_)
    | refine draw_go hT hP mixed ?_
    | refine round_go hT hP ?_
  · have : ty3.bytes = 8 := rfl
    rw [this]; omega
  refine loop_go hT hP (X := Int × List Int) (fun (i, n) => St.mk [.dead, .dead, .cell (.ptr 0 0), .dead, .dead, .cell (.own 1), .dead, .dead, .dead, .dead, .dead, .cell (.ro (.int .i64) ms), I ms.length, I i, .dead, .dead, .dead, .dead, .dead, .dead, .dead, .dead, .dead, .dead, .dead, .dead, .dead, .dead, .dead, .dead, .dead, .dead, .dead, .dead, .dead] [some (.var [.ro (.int .i64) N, .ro (.int .u8) M]), some (.arr (.int .i64) n)])
    (fun (i, n) => ∃ k : Nat, i = k ∧ k ≤ ms.length ∧ n = formK N ms k) (fun (i, _) => (ms.length - i).toNat) (0, List.replicate ms.length 0) (Le.mk [] [0, 1] rfl rfl ?_ ?_) ?_ fun (i, n) hi => ?_
  rotate_right
  repeat' first
    | (refine Go.mk ?_; conv => whnf)
    | refine Need.go ?_ ?_
    | refine NilG.go (fun _ => ?_) (fun _ => ?_)
    | refine Br.dec (fun _ => ?_) (fun _ => ?_)
    | refine Br.go (fun _ => ?_) (fun _ => ?_)
    | refine draw_go hT hP mixed ?_
    | refine round_go hT hP ?_
  · obtain ⟨k, rfl, hk, rfl⟩ := hi
    omega
  · obtain ⟨k, rfl, hk, rfl⟩ := hi
    omega
  · obtain ⟨k, rfl, hk, rfl⟩ := hi
    have hlt : k < ms.length := by omega
    refine hm _ ?_
    show ms.getD k 0 ∈ ms
    simp [hlt]
  · obtain ⟨k, rfl, hk, rfl⟩ := hi
    rw [formK_len N ms hk]; omega
  · obtain ⟨k, rfl, hk, rfl⟩ := hi
    rw [formK_len N ms hk]; omega
  · obtain ⟨k, rfl, hk, rfl⟩ := hi
    have hlt : k < ms.length := by omega
    have e : IntKind.i64.wrap ((k : Int) + 1) = ((k + 1 : Nat) : Int) := by rw [w64 (by omega) (by omega)]; omega
    apply Exists.intro (_, _)
    refine And.intro ?_ (And.intro ?_ (Le.mk [] [0, 1] rfl rfl ?hh ?ht))
    case hh => exact rfl
    case ht => repeat' first | exact trivial | exact ⟨rfl, rfl⟩ | refine And.intro ?_ ?_
    · exact ⟨k + 1, e, by omega, formK_set N ms hlt⟩
    · show (ms.length - IntKind.i64.wrap ((k : Int) + 1)).toNat < (ms.length - (k : Int)).toNat
      rw [e]; omega
  · obtain ⟨k, rfl, hk, rfl⟩ := hi
    have hlt : k < ms.length := by omega
    have e : IntKind.i64.wrap ((k : Int) + 1) = ((k + 1 : Nat) : Int) := by rw [w64 (by omega) (by omega)]; omega
    apply Exists.intro (_, _)
    refine And.intro ?_ (And.intro ?_ (Le.mk [] [0, 1] rfl rfl ?hh ?ht))
    case hh => exact rfl
    case ht => repeat' first | exact trivial | exact ⟨rfl, rfl⟩ | refine And.intro ?_ ?_
    · exact ⟨k + 1, e, by omega, formK_same N ms hlt (by omega)⟩
    · show (ms.length - IntKind.i64.wrap ((k : Int) + 1)).toNat < (ms.length - (k : Int)).toNat
      rw [e]; omega
  · obtain ⟨k, rfl, hk, rfl⟩ := hi
    refine .mk [] [1] _ rfl rfl rfl rfl rfl ?_ rfl
    have e : k = ms.length := by omega
    subst e
    show [some (Blk.arr (.int .i64) (formK N ms ms.length))] = [some (Blk.arr (.int .i64) (formG N ms 0))]
    simp [formK]
  · exact rfl
  · repeat' first | exact trivial | exact ⟨rfl, rfl⟩ | refine And.intro ?_ ?_
  · exact ⟨0, rfl, by omega, by simp [formK, formG]⟩

def eqiS : PSpec := ⟨[gl, gl], fun (a, b, _) => (some (List.length a ≤ 4611686018427387904), .cell (bv (decide (a = b))), [])⟩
theorem eqi_ok : Good Try.prog 101 eqiS.spec := by
  have hT := tab_ok (fs := []) tree_ok
  have hP : SpecsOk Try.prog (tab tree []) := specs_nil
  refine eqiS.good (fn := Try.f101) hT hP Try.func101 (by kernel_rfl) rfl fun (a b : List Int) hp => ?_
  have hp : a.length ≤ 4611686018427387904 := hp _ rfl
  repeat' first
    | (refine Go.mk ?_; conv => whnf)
    | refine Need.go ?_ ?_
    | refine NilG.go (fun _ => ?_) (fun _ => ?_)
    | refine Br.dec (fun _ => ?_) (fun _ => ?_)
    | refine Br.go (fun _ => ?_) (fun _ => ?_)
    | refine draw_go hT hP mixed ?_
    | refine round_go hT hP ?_
  · rename_i h
    refine .mk [] [] _ rfl rfl rfl rfl rfl rfl (imm_bool ?_)
    have h : ((a.length : Int) != (b.length : Int)) = true := h
    simp only [bne_iff_ne, ne_eq] at h
    exact (decide_eq_false fun e => h (by rw [e])).symm
  rename_i hl
  have hl : ((a.length : Int) != (b.length : Int)) = false := hl
  have hl : a.length = b.length := by simp at hl; omega
  refine loop_go hT hP (X := Int) (fun i => St.mk [.cell (.ro (.int .i64) a), .cell (.ro (.int .i64) b), .dead, .dead, .dead, .dead, .dead, .dead, .dead, .dead, .dead, .dead, I a.length, I i, .dead, .dead, .dead, .dead, .dead, .dead, .dead, .dead, .dead, .dead, .dead, .dead] [])
    (fun i => ∃ k : Nat, i = k ∧ k ≤ a.length ∧ a.take k = b.take k) (fun i => (a.length - i).toNat) 0 (Le.mk [] [] rfl rfl rfl ?_) ?_ fun i hi => ?_
  rotate_right
  repeat' first
    | (refine Go.mk ?_; conv => whnf)
    | refine Need.go ?_ ?_
    | refine NilG.go (fun _ => ?_) (fun _ => ?_)
    | refine Br.dec (fun _ => ?_) (fun _ => ?_)
    | refine Br.go (fun _ => ?_) (fun _ => ?_)
    | refine draw_go hT hP mixed ?_
    | refine round_go hT hP ?_
  · obtain ⟨k, rfl, hk, h0⟩ := hi
    omega
  · obtain ⟨k, rfl, hk, h0⟩ := hi
    omega
  · rename_i hne
    obtain ⟨k, rfl, hk, h0⟩ := hi
    have hne : (a.getD k 0 != b.getD k 0) = true := hne
    refine .mk [] [] _ rfl rfl rfl rfl rfl rfl (imm_bool ?_)
    simp only [bne_iff_ne, ne_eq] at hne
    exact (decide_eq_false fun e => hne (by rw [e])).symm
  · rename_i hne
    obtain ⟨k, rfl, hk, h0⟩ := hi
    have hne : (a.getD k 0 != b.getD k 0) = false := hne
    have hlt : k < a.length := by omega
    have hlb : k < b.length := by omega
    have e : IntKind.i64.wrap ((k : Int) + 1) = ((k + 1 : Nat) : Int) := by rw [w64 (by omega) (by omega)]; omega
    apply Exists.intro _
    refine And.intro ?_ (And.intro ?_ (Le.mk [] [] rfl rfl ?hh ?ht))
    case hh => exact rfl
    case ht => repeat' first | exact trivial | exact ⟨rfl, rfl⟩ | refine And.intro ?_ ?_
    · refine ⟨k + 1, e, by omega, ?_⟩
      rw [List.take_succ_eq_append_getElem hlt, List.take_succ_eq_append_getElem hlb, h0]
      have hne : a[k] = b[k] := by simpa [hlt, hlb] using hne
      rw [hne]
    · show (a.length - IntKind.i64.wrap ((k : Int) + 1)).toNat < (a.length - (k : Int)).toNat
      rw [e]; omega
  · obtain ⟨k, rfl, hk, h0⟩ := hi
    refine .mk [] [] _ rfl rfl rfl rfl rfl rfl (imm_bool ?_)
    rw [List.take_of_length_le (by omega), List.take_of_length_le (by omega)] at h0
    exact (decide_eq_true h0).symm
  · repeat' first | exact trivial | exact ⟨rfl, rfl⟩ | refine And.intro ?_ ?_
  · exact ⟨0, rfl, by omega, rfl⟩

def eqbS : PSpec := ⟨[gb, gb], fun (a, b, _) => (some (List.length a ≤ 4611686018427387904), .cell (bv (decide (a = b))), [])⟩
theorem eqb_ok : Good Try.prog 102 eqbS.spec := by
  have hT := tab_ok (fs := []) tree_ok
  have hP : SpecsOk Try.prog (tab tree []) := specs_nil
  refine eqbS.good (fn := Try.f102) hT hP Try.func102 (by kernel_rfl) rfl fun (a b : List Int) hp => ?_
  have hp : a.length ≤ 4611686018427387904 := hp _ rfl
  repeat' first
    | (refine Go.mk ?_; conv => whnf)
    | refine Need.go ?_ ?_
    | refine NilG.go (fun _ => ?_) (fun _ => ?_)
    | refine Br.dec (fun _ => ?_) (fun _ => ?_)
    | refine Br.go (fun _ => ?_) (fun _ => ?_)
    | refine draw_go hT hP mixed ?_
    | refine round_go hT hP ?_
  · rename_i h
    refine .mk [] [] _ rfl rfl rfl rfl rfl rfl (imm_bool ?_)
    have h : ((a.length : Int) != (b.length : Int)) = true := h
    simp only [bne_iff_ne, ne_eq] at h
    exact (decide_eq_false fun e => h (by rw [e])).symm
  rename_i hl
  have hl : ((a.length : Int) != (b.length : Int)) = false := hl
  have hl : a.length = b.length := by simp at hl; omega
  refine loop_go hT hP (X := Int) (fun i => St.mk [.cell (.ro (.int .u8) a), .cell (.ro (.int .u8) b), .dead, .dead, .dead, .dead, .dead, .dead, .dead, .dead, .dead, .dead, I a.length, I i, .dead, .dead, .dead, .dead, .dead, .dead, .dead, .dead, .dead, .dead, .dead, .dead] [])
    (fun i => ∃ k : Nat, i = k ∧ k ≤ a.length ∧ a.take k = b.take k) (fun i => (a.length - i).toNat) 0 (Le.mk [] [] rfl rfl rfl ?_) ?_ fun i hi => ?_
  rotate_right
  repeat' first
    | (refine Go.mk ?_; conv => whnf)
    | refine Need.go ?_ ?_
    | refine NilG.go (fun _ => ?_) (fun _ => ?_)
    | refine Br.dec (fun _ => ?_) (fun _ => ?_)
    | refine Br.go (fun _ => ?_) (fun _ => ?_)
    | refine draw_go hT hP mixed ?_
    | refine round_go hT hP ?_
  · obtain ⟨k, rfl, hk, h0⟩ := hi
    omega
  · obtain ⟨k, rfl, hk, h0⟩ := hi
    omega
  · rename_i hne
    obtain ⟨k, rfl, hk, h0⟩ := hi
    have hne : (a.getD k 0 != b.getD k 0) = true := hne
    refine .mk [] [] _ rfl rfl rfl rfl rfl rfl (imm_bool ?_)
    simp only [bne_iff_ne, ne_eq] at hne
    exact (decide_eq_false fun e => hne (by rw [e])).symm
  · rename_i hne
    obtain ⟨k, rfl, hk, h0⟩ := hi
    have hne : (a.getD k 0 != b.getD k 0) = false := hne
    have hlt : k < a.length := by omega
    have hlb : k < b.length := by omega
    have e : IntKind.i64.wrap ((k : Int) + 1) = ((k + 1 : Nat) : Int) := by rw [w64 (by omega) (by omega)]; omega
    apply Exists.intro _
    refine And.intro ?_ (And.intro ?_ (Le.mk [] [] rfl rfl ?hh ?ht))
    case hh => exact rfl
    case ht => repeat' first | exact trivial | exact ⟨rfl, rfl⟩ | refine And.intro ?_ ?_
    · refine ⟨k + 1, e, by omega, ?_⟩
      rw [List.take_succ_eq_append_getElem hlt, List.take_succ_eq_append_getElem hlb, h0]
      have hne : a[k] = b[k] := by simpa [hlt, hlb] using hne
      rw [hne]
    · show (a.length - IntKind.i64.wrap ((k : Int) + 1)).toNat < (a.length - (k : Int)).toNat
      rw [e]; omega
  · obtain ⟨k, rfl, hk, h0⟩ := hi
    refine .mk [] [] _ rfl rfl rfl rfl rfl rfl (imm_bool ?_)
    rw [List.take_of_length_le (by omega), List.take_of_length_le (by omega)] at h0
    exact (decide_eq_true h0).symm
  · repeat' first | exact trivial | exact ⟨rfl, rfl⟩ | refine And.intro ?_ ?_
  · exact ⟨0, rfl, by omega, rfl⟩

def sameS : PSpec := ⟨[gD, gD], fun (x, y, _) => (some (List.length x.1 ≤ 4611686018427387904 ∧ List.length x.2 ≤ 4611686018427387904), .cell (bv (decide (x.1 = y.1) && decide (x.2 = y.2))), [])⟩
theorem same_ok : Good Try.prog 48 sameS.spec := by
  have hT := tab_ok (fs := [(101, eqiS.spec), (102, eqbS.spec)]) tree_ok
  have hP : SpecsOk Try.prog (tab tree [(101, eqiS.spec), (102, eqbS.spec)]) := specs_cons eqi_ok (specs_cons eqb_ok specs_nil)
  refine sameS.good (fn := Try.f48) hT hP Try.func48 (by kernel_rfl) rfl fun (x y : Dv) hp => ?_
  obtain ⟨N, M⟩ := x
  obtain ⟨N', M'⟩ := y
  obtain ⟨h1, h2⟩ : N.length ≤ 4611686018427387904 ∧ M.length ≤ 4611686018427387904 := hp _ rfl
  repeat' first
    | (refine Go.mk ?_; conv => whnf)
    | refine Need.go ?_ ?_
    | refine NilG.go (fun _ => ?_) (fun _ => ?_)
    | refine Br.dec (fun _ => ?_) (fun _ => ?_)
    | refine Br.go (fun _ => ?_) (fun _ => ?_)
    | refine draw_go hT hP mixed ?_
    | refine round_go hT hP ?_
  all_goals first
    | exact h1
    | exact h2
    | (rename_i h
       refine .mk [] [] _ rfl rfl rfl rfl rfl rfl (imm_bool ?_)
       show _ = (decide (N = N') && decide (M = M'))
       have h : N = N' := h
       rw [decide_eq_true h]; rfl)
    | (rename_i h
       refine .mk [] [] _ rfl rfl rfl rfl rfl rfl (imm_bool ?_)
       show _ = (decide (N = N') && decide (M = M'))
       have h : ¬ N = N' := h
       rw [decide_eq_false h]; rfl)

end Go.Proofs.Ytblnigjmcjpopaa
