/- The steps of a processor in the reference: flags, sums, shifts. -/
import Derived.Test.YtblnigjmcjpopaaAlu3
namespace Go.Proofs.Ytblnigjmcjpopaa
open Go.Fw
set_option linter.unusedVariables false
set_option linter.unusedSimpArgs false
set_option maxRecDepth 100000

def limF (n lo hi : Int) : Int := if n < lo then lo else if n > hi then hi else n
def limitS : PSpec := ⟨[gi, gi, gi], fun (n, lo, hi, _) => (none, I (limF n lo hi), [])⟩
theorem limit_ok : Good Try.prog 95 limitS.spec := by
  have hT := tab_ok (fs := []) tree_ok
  have hP : SpecsOk Try.prog (tab tree []) := specs_nil
  refine limitS.good (fn := Try.f95) hT hP Try.func95 (by kernel_rfl) rfl fun (n lo hi : Int) hp => ?_
  repeat' first
    | (refine Go.mk ?_; conv => whnf)
    | refine Need.go ?_ ?_
    | refine NilG.go (fun _ => ?_) (fun _ => ?_)
    | refine Br.dec (fun _ => ?_) (fun _ => ?_)
    | refine Br.go (fun _ => ?_) (fun _ => ?_)
    | refine draw_go hT hP mixed ?_
    | refine round_go hT hP ?_
  all_goals
    refine .mk [] [] _ rfl rfl rfl rfl rfl rfl (imm_int ?_)
    show _ = limF n lo hi
    dsimp only [gi, Den] at *
    unfold limF
    split <;> (try split) <;> omega
theorem lim_clamp (n : Int) : limF n 0 8 = clampR n := by unfold limF clampR; split <;> (try split) <;> omega

def rfV (p n c : Int) : Int :=
  let q := landNot .i64 p 130
  let q := if n = 0 then lor .i64 q 2 else q
  let q := lor .i64 q (land .i64 n 128)
  if c ≥ 0 then lor .i64 (landNot .i64 q 1) c else q
def rflagsS : PSpec := ⟨[gi, gi, gi], fun (p, n, c, _) => (none, I (rfV p n c), [])⟩
theorem rflags_ok : Good Try.prog 145 rflagsS.spec := by
  have hT := tab_ok (fs := []) tree_ok
  have hP : SpecsOk Try.prog (tab tree []) := specs_nil
  refine rflagsS.good (fn := Try.f145) hT hP Try.func145 (by kernel_rfl) rfl fun (p n c : Int) hp => ?_
  repeat' first
    | (refine Go.mk ?_; conv => whnf)
    | refine Need.go ?_ ?_
    | refine NilG.go (fun _ => ?_) (fun _ => ?_)
    | refine Br.dec (fun _ => ?_) (fun _ => ?_)
    | refine Br.go (fun _ => ?_) (fun _ => ?_)
    | refine draw_go hT hP mixed ?_
    | refine round_go hT hP ?_
  all_goals
    refine .mk [] [] _ rfl rfl rfl rfl rfl rfl (imm_int ?_)
    show _ = rfV p n c
    simp_all [rfV] <;> (intro h; exfalso; omega)
theorem land128 : ∀ n : Int, 0 ≤ n → n < 256 → land .i64 n 128 = if n ≥ 128 then 128 else 0 := fin256 (fun n => land .i64 n 128 = if n ≥ 128 then 128 else 0) (by decide +kernel)
def rfB (p : Int) (z m : Bool) : Int := lor .i64 (cond z (lor .i64 (landNot .i64 p 130) 2) (landNot .i64 p 130)) (cond m 128 0)
theorem rfB_eq (z m : Bool) : ∀ p : Int, 0 ≤ p → p < 256 → rfB p z m = flagV (flagV p 2 z) 128 m := by
  cases z <;> cases m
  · exact fin256 (fun p => rfB p false false = flagV (flagV p 2 false) 128 false) (by decide +kernel)
  · exact fin256 (fun p => rfB p false true = flagV (flagV p 2 false) 128 true) (by decide +kernel)
  · exact fin256 (fun p => rfB p true false = flagV (flagV p 2 true) 128 false) (by decide +kernel)
  · exact fin256 (fun p => rfB p true true = flagV (flagV p 2 true) 128 true) (by decide +kernel)
theorem rf_b {p n : Int} (hn : 0 ≤ n ∧ n < 256) : lor .i64 (if n = 0 then lor .i64 (landNot .i64 p 130) 2 else landNot .i64 p 130) (land .i64 n 128) = rfB p (decide (n = 0)) (decide (n ≥ 128)) := by
  rw [land128 n hn.1 hn.2]
  unfold rfB
  by_cases h1 : n = 0 <;> by_cases h2 : n ≥ 128 <;> simp [h1, h2]
theorem rf_nz {p n : Int} (hp : 0 ≤ p ∧ p < 256) (hn : 0 ≤ n ∧ n < 256) : rfV p n (-1) = nzV p n := by
  unfold rfV nzV
  simp only [rf_b hn]
  rw [if_neg (by omega), rfB_eq _ _ p hp.1 hp.2]
theorem or_0 (x : Int) : lor .i64 (landNot .i64 x 1) 0 = landNot .i64 x 1 := by
  show IntKind.i64.wrap (((BitVec.ofInt 64 (landNot .i64 x 1) ||| BitVec.ofInt 64 0).toNat : Nat) : Int) = _
  have : BitVec.ofInt 64 (landNot .i64 x 1) ||| BitVec.ofInt 64 0 = BitVec.ofInt 64 (landNot .i64 x 1) := by simp
  rw [this, ofInt_toNat]
  have hb : landNot .i64 x 1 = IntKind.i64.wrap (((BitVec.ofInt 64 x &&& ~~~(BitVec.ofInt 64 1)).toNat : Nat) : Int) := rfl
  generalize ((BitVec.ofInt 64 x &&& ~~~(BitVec.ofInt 64 1)).toNat : Nat) = m at hb
  rw [hb, w64e, w64e]
  unfold u64
  omega
theorem rf_res {p n c : Int} (hp : 0 ≤ p ∧ p < 256) (hn : 0 ≤ n ∧ n < 256) (hc : c = 0 ∨ c = 1) : rfV p n c = resV p n c := by
  unfold rfV resV
  simp only [rf_b hn]
  rw [rfB_eq _ _ p hp.1 hp.2]
  rcases hc with rfl | rfl
  · rw [if_pos (by omega)]
    show lor .i64 (landNot .i64 (nzV p n) 1) 0 = flagV (nzV p n) 1 (decide ((0 : Int) = 1))
    rw [or_0]; rfl
  · rw [if_pos (by omega)]; rfl

theorem mapOne (p : Prop) [Decidable p] : getOr (mapGet (kt := .bool) (vt := .int .i64) (mapPut (kt := .bool) (vt := .int .i64) [] true (1 : Int)) (decide p)) (dflt (.int .i64)) = if p then (1 : Int) else 0 := by
  by_cases h : p
  · rw [decide_eq_true h, if_pos h]; rfl
  · rw [decide_eq_false h, if_neg h]; rfl
def okSum (d a b c : Int) : Prop := (0 ≤ a ∧ a < 256) ∧ (0 ≤ b ∧ b < 256) ∧ bitC c
def sumN (d a b c : Int) : Int := if d = 4 then (a + b + c) % 256 else if d = 5 then (a - b - (1 - c)) % 256 else (a - b) % 256
def sumC (d a b c : Int) : Int := if d = 4 then (a + b + c) / 256 else if d = 5 then 1 - borV (a - b - (1 - c)) else 1 - borV (a - b)
def sumsS : PSpec := ⟨[gi, gi, gi, gi], fun (d, a, b, c, _) => (some (okSum d a b c), .tup [I1 (sumN d a b c), I1 (sumC d a b c)], [])⟩
theorem sums_ok : Good Try.prog 146 sumsS.spec := by
  have hT := tab_ok (fs := [(76, modS.spec)]) tree_ok
  have hP : SpecsOk Try.prog (tab tree [(76, modS.spec)]) := specs_cons mod_ok specs_nil
  refine sumsS.good (fn := Try.f146) hT hP Try.func146 (by kernel_rfl) rfl fun (d a b c : Int) hp => ?_
  obtain ⟨ha, hb, hc⟩ : okSum d a b c := hp _ rfl
  repeat' first
    | (refine Go.mk ?_; conv => whnf)
    | refine Need.go ?_ ?_
    | refine NilG.go (fun _ => ?_) (fun _ => ?_)
    | refine Br.dec (fun _ => ?_) (fun _ => ?_)
    | refine Br.go (fun _ => ?_) (fun _ => ?_)
    | refine draw_go hT hP mixed ?_
    | refine round_go hT hP ?_
  all_goals first
    | exact of_decide_eq_true rfl
    | skip
  all_goals (try refine .mk [] [] _ rfl rfl rfl rfl rfl rfl (tup2_int ?_ ?_))
  all_goals
    unfold bitC at hc
    dsimp only [gi, Den] at *
    clear hp hT hP
  · rename_i h; simp only [sumN, if_pos h, w64e, tmodE]; split <;> omega
  · rename_i h; simp only [sumC, if_pos h, w64e, tdivE]; split <;> omega
  · rename_i h1 h2; simp only [sumN, if_neg h1, if_pos h2, w64e]; omega
  · rename_i h1 h2
    have e : IntKind.i64.wrap (IntKind.i64.wrap (a - b) - IntKind.i64.wrap (1 - c)) = a - b - (1 - c) := by simp only [w64e]; omega
    simp only [sumC, if_neg h1, if_pos h2]
    rw [e, mapOne]
    unfold borV
    split <;> omega
  · rename_i h1 h2; simp only [sumN, if_neg h1, if_neg h2, w64e]; omega
  · rename_i h1 h2
    simp only [sumC, if_neg h1, if_neg h2]
    rw [mapOne]
    unfold borV
    split <;> omega

def tnN (d a c : Int) : Int := if d = 12 then a * 2 % 256 else if d = 14 then a * 2 % 256 + c else if d = 13 then a / 2 else a / 2 + 128 * c
def tnC (d a : Int) : Int := if d = 12 ∨ d = 14 then a / 128 else a % 2
def okTn (a c : Int) : Prop := (0 ≤ a ∧ a < 256) ∧ bitC c
def turnedS : PSpec := ⟨[gi, gi, gi], fun (d, a, c, _) => (some (okTn a c), .tup [I1 (tnN d a c), I1 (tnC d a)], [])⟩
theorem turned_ok : Good Try.prog 147 turnedS.spec := by
  have hT := tab_ok (fs := []) tree_ok
  have hP : SpecsOk Try.prog (tab tree []) := specs_nil
  refine turnedS.good (fn := Try.f147) hT hP Try.func147 (by kernel_rfl) rfl fun (d a c : Int) hp => ?_
  obtain ⟨ha, hc⟩ : okTn a c := hp _ rfl
  repeat' first
    | (refine Go.mk ?_; conv => whnf)
    | refine Need.go ?_ ?_
    | refine NilG.go (fun _ => ?_) (fun _ => ?_)
    | refine Br.dec (fun _ => ?_) (fun _ => ?_)
    | refine Br.go (fun _ => ?_) (fun _ => ?_)
    | refine draw_go hT hP mixed ?_
    | refine round_go hT hP ?_
  all_goals first
    | exact of_decide_eq_true rfl
    | skip
  all_goals (try refine .mk [] [] _ rfl rfl rfl rfl rfl rfl (tup2_int ?_ ?_))
  all_goals
    unfold bitC at hc
    dsimp only [gi, Den] at *
    clear hp hT hP
  all_goals
    simp only [tnN, tnC, tmodE, tdivE]
    simp_all [w64e]
  all_goals omega

end Go.Proofs.Ytblnigjmcjpopaa
