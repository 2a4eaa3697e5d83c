/- The steps of a processor: the small functions. -/
import Derived.Test.YtblnigjmcjpopaaCore
import Derived.Test.YtblnigjmcjpopaaGetPut
namespace Go.Proofs.Ytblnigjmcjpopaa
open Go.Fw
set_option linter.unusedVariables false
set_option linter.unusedSimpArgs false
set_option maxRecDepth 100000

theorem land1e (c : Int) : land .i64 c 1 = c % 2 := by
  have e : (BitVec.ofInt 64 c &&& BitVec.ofInt 64 1).toNat = (BitVec.ofInt 64 c).toNat % 2 := by
    rw [BitVec.toNat_and]
    exact Nat.and_one_is_mod _
  show IntKind.i64.wrap (((BitVec.ofInt 64 c &&& BitVec.ofInt 64 1).toNat : Nat) : Int) = _
  rw [e, ofInt_toNat, w64 (by omega) (by omega)]
  unfold u64
  omega
theorem shr_lit (x : Int) (k : Nat) (h : k ≤ 64) : shr .i64 x (k : Int) = x / 2 ^ k := by
  show x.fdiv (2 ^ (min ((k : Int).toNat) 64)) = _
  have : min ((k : Int).toNat) 64 = k := by omega
  rw [this]
  exact Int.fdiv_eq_ediv_of_nonneg _ (by have : (0 : Int) ≤ ((2 ^ k : Nat) : Int) := Int.natCast_nonneg _; simpa using this)
theorem shr8 (x : Int) : shr .i64 x 8 = x / 256 := shr_lit x 8 (by omega)
theorem shr1 (x : Int) : shr .i64 x 1 = x / 2 := shr_lit x 1 (by omega)
theorem shr7 (x : Int) : shr .i64 x 7 = x / 128 := shr_lit x 7 (by omega)
theorem width8 : widthF 8 = 8 := by decide
theorem p8 : (2 : Int) ^ (8 : Int).toNat = 256 := by decide
theorem shl1 (x : Int) (h : 0 ≤ x ∧ x < 65536) : shl .i64 x 1 = 2 * x := by
  show IntKind.i64.wrap (x * 2 ^ (min ((1 : Int).toNat) 64)) = _
  have : min ((1 : Int).toNat) 64 = 1 := by decide
  rw [this, w64 (by omega) (by omega)]; omega
theorem shl8 (x : Int) (h : 0 ≤ x ∧ x < 65536) : shl .i64 x 8 = 256 * x := by
  show IntKind.i64.wrap (x * 2 ^ (min ((8 : Int).toNat) 64)) = _
  have : min ((8 : Int).toNat) 64 = 8 := by decide
  rw [this, w64 (by omega) (by omega)]; omega
theorem shl18 : shl .i64 1 8 = 256 := by decide
theorem or_low (x c : Int) (h : 0 ≤ x ∧ x < 256) (hc : c = 0 ∨ c = 1) : lor .i64 (2 * x) c = 2 * x + c := by
  rcases hc with rfl | rfl
  · exact fin256 (fun x => lor .i64 (2 * x) 0 = 2 * x + 0) (by decide +kernel) x h.1 h.2
  · exact fin256 (fun x => lor .i64 (2 * x) 1 = 2 * x + 1) (by decide +kernel) x h.1 h.2
theorem or_high (x c : Int) (h : 0 ≤ x ∧ x < 256) (hc : c = 0 ∨ c = 1) : lor .i64 x (256 * c) = x + 256 * c := by
  rcases hc with rfl | rfl
  · exact fin256 (fun x => lor .i64 x (256 * 0) = x + 256 * 0) (by decide +kernel) x h.1 h.2
  · exact fin256 (fun x => lor .i64 x (256 * 1) = x + 256 * 1) (by decide +kernel) x h.1 h.2

abbrev bitC (c : Int) : Prop := c = 0 ∨ c = 1
def okAB (a b c n : Int) : Prop := (0 ≤ a ∧ a < 256) ∧ (0 ≤ b ∧ b < 256) ∧ bitC c ∧ n = 8
def add8S : PSpec := ⟨[gi, gi, gi, gi], fun (a, b, c, n, _) => (some (okAB a b c n), .tup [I1 ((a + b + c) % 256), I1 ((a + b + c) / 256)], [])⟩
theorem add8_ok : Good Try.prog 180 add8S.spec := by
  have hT := tab_ok (fs := [(135, widthS.spec), (70, lowM.spec)]) tree_ok
  have hP : SpecsOk Try.prog (tab tree [(135, widthS.spec), (70, lowM.spec)]) := specs_cons width_ok (specs_cons lowM_ok specs_nil)
  refine add8S.good (fn := Try.f180) hT hP Try.func180 (by kernel_rfl) rfl fun (a b c n : Int) hp => ?_
  obtain ⟨ha, hb, hc, rfl⟩ : okAB a b c n := hp _ rfl
  repeat' first
    | (refine Go.mk ?_; conv => whnf)
    | refine Need.go ?_ ?_
    | refine NilG.go (fun _ => ?_) (fun _ => ?_)
    | refine Br.dec (fun _ => ?_) (fun _ => ?_)
    | refine Br.go (fun _ => ?_) (fun _ => ?_)
    | refine draw_go hT hP mixed ?_
    | refine round_go hT hP ?_
  all_goals first
    | exact of_decide_eq_true rfl
    | skip
  refine .mk [] [] _ rfl rfl rfl rfl rfl rfl (tup2_int ?_ ?_)
  · rw [width8, p8, land1e]; simp only [w64e]; omega
  · rw [width8, p8, land1e, shr8]; simp only [w64e]; omega
def borV (x : Int) : Int := if x < 0 then 1 else 0
def sub8S : PSpec := ⟨[gi, gi, gi, gi], fun (a, b, c, n, _) => (some (okAB a b c n), .tup [I1 ((a - b - c) % 256), I1 (borV (a - b - c))], [])⟩
theorem sub8_ok : Good Try.prog 183 sub8S.spec := by
  have hT := tab_ok (fs := [(135, widthS.spec), (70, lowM.spec)]) tree_ok
  have hP : SpecsOk Try.prog (tab tree [(135, widthS.spec), (70, lowM.spec)]) := specs_cons width_ok (specs_cons lowM_ok specs_nil)
  refine sub8S.good (fn := Try.f183) hT hP Try.func183 (by kernel_rfl) rfl fun (a b c n : Int) hp => ?_
  obtain ⟨ha, hb, hc, rfl⟩ : okAB a b c n := hp _ rfl
  repeat' first
    | (refine Go.mk ?_; conv => whnf)
    | refine Need.go ?_ ?_
    | refine NilG.go (fun _ => ?_) (fun _ => ?_)
    | refine Br.dec (fun _ => ?_) (fun _ => ?_)
    | refine Br.go (fun _ => ?_) (fun _ => ?_)
    | refine draw_go hT hP mixed ?_
    | refine round_go hT hP ?_
  all_goals first
    | exact of_decide_eq_true rfl
    | skip
  all_goals
    rename_i h
    dsimp only [gi, Den] at h
    rw [width8, p8, land1e] at h
    simp only [w64e] at h
    refine .mk [] [] _ rfl rfl rfl rfl rfl rfl (tup2_int ?_ ?_)
    · simp only [width8, p8, land1e, shl18, w64e]; rcases hc with rfl | rfl <;> omega
    · unfold borV; rcases hc with rfl | rfl <;> split <;> omega
def okN (n c b : Int) : Prop := bitC c ∧ b = 8
def rol8S : PSpec := ⟨[gi, gi, gi], fun (n, c, b, _) => (some (okN n c b), .tup [I1 ((n * 2 + c) % 256), I1 (n % 256 / 128)], [])⟩
theorem rol8_ok : Good Try.prog 184 rol8S.spec := by
  have hT := tab_ok (fs := [(135, widthS.spec), (70, lowM.spec)]) tree_ok
  have hP : SpecsOk Try.prog (tab tree [(135, widthS.spec), (70, lowM.spec)]) := specs_cons width_ok (specs_cons lowM_ok specs_nil)
  refine rol8S.good (fn := Try.f184) hT hP Try.func184 (by kernel_rfl) rfl fun (n c b : Int) hp => ?_
  obtain ⟨hc, rfl⟩ : okN n c b := hp _ rfl
  have hcc : c % 2 = c := by rcases hc with rfl | rfl <;> rfl
  repeat' first
    | (refine Go.mk ?_; conv => whnf)
    | refine Need.go ?_ ?_
    | refine NilG.go (fun _ => ?_) (fun _ => ?_)
    | refine Br.dec (fun _ => ?_) (fun _ => ?_)
    | refine Br.go (fun _ => ?_) (fun _ => ?_)
    | refine draw_go hT hP mixed ?_
    | refine round_go hT hP ?_
  all_goals first
    | exact of_decide_eq_true rfl
    | skip
  have hor := or_low (n % 256) c (by omega) hc
  refine .mk [] [] _ rfl rfl rfl rfl rfl rfl (tup2_int ?_ ?_)
  · simp only [width8, p8, land1e, hcc]
    rw [shl1 _ (by omega), hor]
    rcases hc with rfl | rfl <;> omega
  · simp only [width8, p8, land1e, hcc]
    rw [shl1 _ (by omega), hor, shr8]
    rcases hc with rfl | rfl <;> omega
def ror8S : PSpec := ⟨[gi, gi, gi], fun (n, c, b, _) => (some (okN n c b), .tup [I1 (n % 256 / 2 + 128 * c), I1 (n % 2)], [])⟩
theorem ror8_ok : Good Try.prog 185 ror8S.spec := by
  have hT := tab_ok (fs := [(135, widthS.spec), (70, lowM.spec)]) tree_ok
  have hP : SpecsOk Try.prog (tab tree [(135, widthS.spec), (70, lowM.spec)]) := specs_cons width_ok (specs_cons lowM_ok specs_nil)
  refine ror8S.good (fn := Try.f185) hT hP Try.func185 (by kernel_rfl) rfl fun (n c b : Int) hp => ?_
  obtain ⟨hc, rfl⟩ : okN n c b := hp _ rfl
  have hcc : c % 2 = c := by rcases hc with rfl | rfl <;> rfl
  repeat' first
    | (refine Go.mk ?_; conv => whnf)
    | refine Need.go ?_ ?_
    | refine NilG.go (fun _ => ?_) (fun _ => ?_)
    | refine Br.dec (fun _ => ?_) (fun _ => ?_)
    | refine Br.go (fun _ => ?_) (fun _ => ?_)
    | refine draw_go hT hP mixed ?_
    | refine round_go hT hP ?_
  all_goals first
    | exact of_decide_eq_true rfl
    | skip
  have hor := or_high (n % 256) c (by omega) hc
  refine .mk [] [] _ rfl rfl rfl rfl rfl rfl (tup2_int ?_ ?_)
  · simp only [width8, p8, land1e, hcc]
    rw [shl8 _ (by rcases hc with rfl | rfl <;> omega), hor, shr1]
    rcases hc with rfl | rfl <;> omega
  · simp only [width8, p8, hcc, land1e]
    rw [shl8 _ (by rcases hc with rfl | rfl <;> omega), hor]
    rcases hc with rfl | rfl <;> omega
def sgn8S : PSpec := ⟨[gi, gi], fun (n, b, _) => (some ((b : Int) = 8), I (n % 256 - n % 256 / 128 * 256), [])⟩
theorem sgn8_ok : Good Try.prog 144 sgn8S.spec := by
  have hT := tab_ok (fs := [(135, widthS.spec), (70, lowM.spec)]) tree_ok
  have hP : SpecsOk Try.prog (tab tree [(135, widthS.spec), (70, lowM.spec)]) := specs_cons width_ok (specs_cons lowM_ok specs_nil)
  refine sgn8S.good (fn := Try.f144) hT hP Try.func144 (by kernel_rfl) rfl fun (n b : Int) hp => ?_
  obtain rfl : b = 8 := hp _ rfl
  repeat' first
    | (refine Go.mk ?_; conv => whnf)
    | refine Need.go ?_ ?_
    | refine NilG.go (fun _ => ?_) (fun _ => ?_)
    | refine Br.dec (fun _ => ?_) (fun _ => ?_)
    | refine Br.go (fun _ => ?_) (fun _ => ?_)
    | refine draw_go hT hP mixed ?_
    | refine round_go hT hP ?_
  all_goals first
    | exact (by decide : 0 ≤ widthF 8 ∧ widthF 8 ≤ 62)
    | exact (by decide : 0 ≤ IntKind.i64.wrap (widthF 8 - 1))
    | exact (by decide : 0 ≤ widthF 8)
    | skip
  all_goals
    rename_i h
    dsimp only [gi, Den] at h
    rw [width8, p8, show IntKind.i64.wrap (8 - 1) = 7 by decide, shr7] at h
    refine .mk [] [] _ rfl rfl rfl rfl rfl rfl (imm_int ?_)
    simp only [width8, p8, shl18, w64e]; omega

-- flags

def flagV (p f : Int) (on : Bool) : Int := cond on (lor .i64 (landNot .i64 p f) f) (landNot .i64 p f)
def flagS : PSpec := ⟨[gR, gi, gB], fun (r, f, on, _) => (some (List.length r = 9), .agg [.run .i64 9 (List.set r 4 (flagV (List.getD r 4 0) f on))], [])⟩
theorem flag_ok : Good Try.prog 141 flagS.spec := by
  have hT := tab_ok (fs := []) tree_ok
  have hP : SpecsOk Try.prog (tab tree []) := specs_nil
  refine flagS.good (fn := Try.f141) hT hP Try.func141 (by kernel_rfl) rfl fun (r : List Int) (f : Int) (on : Bool) hp => ?_
  have h9 : r.length = 9 := hp _ rfl
  obtain ⟨r0, r1, r2, r3, r4, r5, r6, r7, r8, rfl⟩ := nine h9
  cases on
  all_goals
    repeat' first
      | (refine Go.mk ?_; conv => whnf)
      | refine Need.go ?_ ?_
      | refine NilG.go (fun _ => ?_) (fun _ => ?_)
      | refine Br.dec (fun _ => ?_) (fun _ => ?_)
      | refine Br.go (fun _ => ?_) (fun _ => ?_)
      | refine draw_go hT hP mixed ?_
      | refine round_go hT hP ?_
  all_goals first
    | exact of_decide_eq_true rfl
    | exact .mk [] [] _ rfl rfl rfl rfl rfl rfl rfl
def nzV (p n : Int) : Int := flagV (flagV p 2 (decide (n = 0))) 128 (decide (n ≥ 128))
def nzS : PSpec := ⟨[gR, gi], fun (r, n, _) => (some (List.length r = 9), .agg [.run .i64 9 (List.set r 4 (nzV (List.getD r 4 0) n))], [])⟩
theorem nz_ok : Good Try.prog 138 nzS.spec := by
  have hT := tab_ok (fs := [(141, flagS.spec)]) tree_ok
  have hP : SpecsOk Try.prog (tab tree [(141, flagS.spec)]) := specs_cons flag_ok specs_nil
  refine nzS.good (fn := Try.f138) hT hP Try.func138 (by kernel_rfl) rfl fun (r : List Int) (n : Int) hp => ?_
  have h9 : r.length = 9 := hp _ rfl
  obtain ⟨r0, r1, r2, r3, r4, r5, r6, r7, r8, rfl⟩ := nine h9
  repeat' first
    | (refine Go.mk ?_; conv => whnf)
    | refine Need.go ?_ ?_
    | refine NilG.go (fun _ => ?_) (fun _ => ?_)
    | refine Br.dec (fun _ => ?_) (fun _ => ?_)
    | refine Br.go (fun _ => ?_) (fun _ => ?_)
    | refine draw_go hT hP mixed ?_
    | refine round_go hT hP ?_
  all_goals first
    | exact of_decide_eq_true rfl
    | exact .mk [] [] _ rfl rfl rfl rfl rfl rfl rfl
def carryS : PSpec := ⟨[gR], fun (r, _) => (some (List.length r = 9), I (land .i64 (List.getD r 4 0) 1), [])⟩
theorem carry_ok : Good Try.prog 181 carryS.spec := by
  have hT := tab_ok (fs := []) tree_ok
  have hP : SpecsOk Try.prog (tab tree []) := specs_nil
  refine carryS.good (fn := Try.f181) hT hP Try.func181 (by kernel_rfl) rfl fun (r : List Int) hp => ?_
  have h9 : r.length = 9 := hp _ rfl
  repeat' first
    | (refine Go.mk ?_; conv => whnf)
    | refine Need.go ?_ ?_
    | refine NilG.go (fun _ => ?_) (fun _ => ?_)
    | refine Br.dec (fun _ => ?_) (fun _ => ?_)
    | refine Br.go (fun _ => ?_) (fun _ => ?_)
    | refine draw_go hT hP mixed ?_
    | refine round_go hT hP ?_
  all_goals first
    | exact of_decide_eq_true rfl
    | exact .mk [] [] _ rfl rfl rfl rfl rfl rfl rfl
def clampR (n : Int) : Int := max 0 (min n 8)
def aIndexS : PSpec := ⟨[gi], fun (n, _) => (none, I (clampR n), [])⟩
theorem aIndex_ok : Good Try.prog 137 aIndexS.spec := by
  have hT := tab_ok (fs := []) tree_ok
  have hP : SpecsOk Try.prog (tab tree []) := specs_nil
  refine aIndexS.good (fn := Try.f137) hT hP Try.func137 (by kernel_rfl) rfl fun (n : Int) hp => ?_
  repeat' first
    | (refine Go.mk ?_; conv => whnf)
    | refine Need.go ?_ ?_
    | refine NilG.go (fun _ => ?_) (fun _ => ?_)
    | refine Br.dec (fun _ => ?_) (fun _ => ?_)
    | refine Br.go (fun _ => ?_) (fun _ => ?_)
    | refine draw_go hT hP mixed ?_
    | refine round_go hT hP ?_
  refine .mk [] [] _ rfl rfl rfl rfl rfl rfl (imm_int ?_)
  rw [imax_eq, imin_eq]; rfl
theorem clamp_in (n : Int) : 0 ≤ clampR n ∧ clampR n < 9 := by unfold clampR; omega
def okT (t : Int) : Prop := 0 ≤ t ∧ t < 9
def resV (p n c : Int) : Int := flagV (nzV p n) 1 (decide (c = 1))
def resultS : PSpec := ⟨[gR, gi, gi, gi], fun (r, t, n, c, _) => (some (List.length r = 9 ∧ okT t), .agg [.run .i64 9 (List.set (List.set r 4 (resV (List.getD r 4 0) n c)) (Int.toNat t) n)], [])⟩
theorem result_ok : Good Try.prog 182 resultS.spec := by
  have hT := tab_ok (fs := [(141, flagS.spec), (138, nzS.spec)]) tree_ok
  have hP : SpecsOk Try.prog (tab tree [(141, flagS.spec), (138, nzS.spec)]) := specs_cons flag_ok (specs_cons nz_ok specs_nil)
  refine resultS.good (fn := Try.f182) hT hP Try.func182 (by kernel_rfl) rfl fun (r : List Int) (t n c : Int) hp => ?_
  obtain ⟨h9, ht⟩ : r.length = 9 ∧ okT t := hp _ rfl
  obtain ⟨r0, r1, r2, r3, r4, r5, r6, r7, r8, rfl⟩ := nine h9
  have ht2 : t.toNat < 9 := by have := ht; unfold okT at this; omega
  repeat' first
    | (refine Go.mk ?_; conv => whnf)
    | refine Need.go ?_ ?_
    | refine NilG.go (fun _ => ?_) (fun _ => ?_)
    | refine Br.dec (fun _ => ?_) (fun _ => ?_)
    | refine Br.go (fun _ => ?_) (fun _ => ?_)
    | refine draw_go hT hP mixed ?_
    | refine round_go hT hP ?_
  all_goals first
    | exact of_decide_eq_true rfl
    | exact ht
    | exact ht2
    | exact .mk [] [] _ rfl rfl rfl rfl rfl rfl rfl

end Go.Proofs.Ytblnigjmcjpopaa
