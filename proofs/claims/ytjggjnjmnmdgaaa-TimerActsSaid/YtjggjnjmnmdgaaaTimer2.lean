/- The chip that counts down: its registers. -/
import Derived.Test.YtjggjnjmnmdgaaaTimer
import Derived.Test.YtjggjnjmnmdgaaaGetPut
namespace Go.Proofs.Ytjggjnjmnmdgaaa
open Go.Fw
set_option linter.unusedVariables false
set_option linter.unusedSimpArgs false
set_option maxRecDepth 100000

theorem and_pow (n i : Nat) : n &&& 2 ^ i = n / 2 ^ i % 2 * 2 ^ i := by
  apply Nat.eq_of_testBit_eq
  intro j
  rw [Nat.testBit_and, Nat.testBit_two_pow]
  have hb : n.testBit i = decide (n / 2 ^ i % 2 = 1) := Nat.testBit_eq_decide_div_mod_eq
  rcases Nat.mod_two_eq_zero_or_one (n / 2 ^ i) with h | h
  · rw [h] at hb ⊢
    rw [Nat.zero_mul, Nat.zero_testBit]
    by_cases e : i = j
    · subst e; rw [hb]; simp
    · simp [e]
  · rw [h] at hb ⊢
    rw [Nat.one_mul, Nat.testBit_two_pow]
    by_cases e : i = j
    · subst e; rw [hb]; simp
    · simp [e]
theorem land_128 (k : Int) : land .i64 k 128 = k / 128 % 2 * 128 := by
  have e : u64 128 = 2 ^ 7 := by decide
  have h := and_pow (u64 k) 7
  have hb : u64 k / 2 ^ 7 % 2 ≤ 1 := by omega
  rw [land_nat _ _ (by rw [e, h]; omega), e, h]
  unfold u64
  omega

def twN (N : List Int) (a k : Int) : List Int :=
  [if a = 2 ∧ k / 128 % 2 = 1 then tB N else tA N, if a = 0 then tB N / 256 * 256 + k % 256 else if a = 1 then tB N % 256 + 256 * (k % 256) else tB N, if a = 2 then k % 8 else tC N, tF N]
def twriteS : PSpec := ⟨[gD, gi, gi], fun (d, a, k, _) => (none, devR, [.arr (.int .i64) (twN d.1 a k)])⟩
theorem twrite_ok : Good Try.prog 78 twriteS.spec := by
  have hT := tab_ok (fs := [(97, tfitS.spec), (33, lowM.spec), (20, putM.spec)]) tree_ok
  have hP : SpecsOk Try.prog (tab tree [(97, tfitS.spec), (33, lowM.spec), (20, putM.spec)]) := specs_cons tfit_ok (specs_cons lowM_ok (specs_cons putM_ok specs_nil))
  refine twriteS.good (fn := Try.f78) hT hP Try.func78 (by kernel_rfl) rfl fun (d : Dv) (a k : Int) _ => ?_
  obtain ⟨N, M⟩ := d
  obtain ⟨rA, rB, rC, rF⟩ := tR N
  repeat' first
    | (refine Go.mk ?_; conv => whnf)
    | refine Need.go ?_ ?_
    | refine NilG.go (fun _ => ?_) (fun _ => ?_)
    | refine Br.dec (fun _ => ?_) (fun _ => ?_)
    | refine Br.go (fun _ => ?_) (fun _ => ?_)
    | refine draw_go hT hP mixed ?_
    | refine round_go hT hP ?_
  all_goals (try subst_vars)
  all_goals first
    | exact rfl
    | exact of_decide_eq_true rfl
    | (refine ⟨?_, ?_, by decide, by decide, by decide⟩
       · exact rB.1
       · exact (by omega : tB N < 4611686018427387904))
    | skip
  · refine .mk [] [2] _ rfl rfl rfl rfl rfl (blk_eq (l := [tA N, 2 ^ (0 : Int).toNat * (2 ^ (8 : Int).toNat * (tB N / 2 ^ (0 + 8 : Int).toNat) + k % 2 ^ (8 : Int).toNat) + tB N % 2 ^ (0 : Int).toNat, tC N, tF N]) ?_) rfl
    show _ = twN N 0 k
    have e : (2 ^ (0 : Int).toNat * (2 ^ (8 : Int).toNat * (tB N / 2 ^ (0 + 8 : Int).toNat) + k % 2 ^ (8 : Int).toNat) + tB N % 2 ^ (0 : Int).toNat) = tB N / 256 * 256 + k % 256 := by
      show (1 : Int) * (256 * (tB N / 256) + k % 256) + tB N % 1 = _
      omega
    rw [e]; rfl
  · refine .mk [] [2] _ rfl rfl rfl rfl rfl (blk_eq (l := [tA N, 2 ^ (8 : Int).toNat * (2 ^ (8 : Int).toNat * (tB N / 2 ^ (8 + 8 : Int).toNat) + k % 2 ^ (8 : Int).toNat) + tB N % 2 ^ (8 : Int).toNat, tC N, tF N]) ?_) rfl
    show _ = twN N 1 k
    have e : (2 ^ (8 : Int).toNat * (2 ^ (8 : Int).toNat * (tB N / 2 ^ (8 + 8 : Int).toNat) + k % 2 ^ (8 : Int).toNat) + tB N % 2 ^ (8 : Int).toNat) = tB N % 256 + 256 * (k % 256) := by
      show (256 : Int) * (256 * (tB N / 65536) + k % 256) + tB N % 256 = _
      omega
    rw [e]; rfl
  · rename_i h _ _ _
    have h : (land .i64 k 128 != 0) = true := h
    refine .mk [] [2] _ rfl rfl rfl rfl rfl (blk_eq (l := [tB N, tB N, k % 2 ^ (3 : Int).toNat, tF N]) ?_) rfl
    show _ = twN N 2 k
    have h : k / 128 % 2 = 1 := by rw [land_128] at h; simp at h; omega
    rw [twN, if_pos ⟨rfl, h⟩]; rfl
  · rename_i h _ _ _
    have h : (land .i64 k 128 != 0) = false := h
    refine .mk [] [2] _ rfl rfl rfl rfl rfl (blk_eq (l := [tA N, tB N, k % 2 ^ (3 : Int).toNat, tF N]) ?_) rfl
    show _ = twN N 2 k
    have h : ¬ k / 128 % 2 = 1 := by rw [land_128] at h; simp at h; omega
    rw [twN, if_neg (fun e => h e.2)]; rfl
  · rename_i h0 h1 h2
    refine .mk [] [2] _ rfl rfl rfl rfl rfl (blk_eq (l := timN N) ?_) rfl
    show _ = twN N a k
    simp only [twN, timN_eq, if_neg h0, if_neg h1, if_neg h2]
    rw [if_neg (fun e => h2 e.1)]

def tstoredS : PSpec := ⟨[gC, gD, gi, gi], fun (c, d, a, k, _) => (some (c = timC), devR, [.arr (.int .i64) (twN d.1 a k)])⟩
theorem tstored_ok : Good Try.prog 45 tstoredS.spec := by
  have hT := tab_ok (fs := [(55, tformedS.spec), (91, modS.spec)]) tree_ok
  have hP : SpecsOk Try.prog (tab tree [(55, tformedS.spec), (91, modS.spec)]) := specs_cons tformed_ok (specs_cons mod_ok specs_nil)
  refine tstoredS.good (fn := Try.f45) hT hP Try.func45 (by kernel_rfl) rfl fun (c : Cv) (d : Dv) (a k : Int) hp => ?_
  have hp : c = timC := hp _ rfl
  subst hp
  obtain ⟨N, M⟩ := d
  obtain ⟨rA, rB, rC, rF⟩ := tR N
  repeat' first
    | (refine Go.mk ?_; conv => whnf)
    | refine Need.go ?_ ?_
    | refine NilG.go (fun _ => ?_) (fun _ => ?_)
    | refine Br.dec (fun _ => ?_) (fun _ => ?_)
    | refine Br.go (fun _ => ?_) (fun _ => ?_)
    | refine draw_go hT hP mixed ?_
    | refine round_go hT hP ?_
  all_goals (try subst_vars)
  all_goals first
    | exact rfl
    | exact of_decide_eq_true rfl
    | skip
  · refine .mk [] [3] _ rfl rfl rfl rfl rfl (blk_eq (l := [tA N, IntKind.i64.wrap (IntKind.i64.wrap (IntKind.i64.wrap (Int.tdiv (tB N) 256) * 256) + k % 256), tC N, tF N]) ?_) rfl
    show _ = twN N 0 k
    rw [Int.tdiv_eq_ediv_of_nonneg (by omega), w64 (x := tB N / 256) (by omega) (by omega), w64 (x := tB N / 256 * 256) (by omega) (by omega), w64 (by omega) (by omega)]; rfl
  · refine .mk [] [3] _ rfl rfl rfl rfl rfl (blk_eq (l := [tA N, IntKind.i64.wrap (Int.tmod (tB N) 256 + IntKind.i64.wrap (256 * (k % 256))), tC N, tF N]) ?_) rfl
    show _ = twN N 1 k
    rw [Int.tmod_eq_emod_of_nonneg (by omega), w64 (x := 256 * (k % 256)) (by omega) (by omega), w64 (by omega) (by omega)]; rfl
  · rename_i h _ _
    have h : IntKind.i64.wrap (Int.tdiv (k % 256) 128) = 1 := h
    refine .mk [] [3] _ rfl rfl rfl rfl rfl (blk_eq (l := [tB N, tB N, Int.tmod (k % 256) 8, tF N]) ?_) rfl
    show _ = twN N 2 k
    have h : k / 128 % 2 = 1 := by rw [Int.tdiv_eq_ediv_of_nonneg (by omega), w64 (by omega) (by omega)] at h; omega
    have e : Int.tmod (k % 256) 8 = k % 8 := by rw [Int.tmod_eq_emod_of_nonneg (by omega)]; omega
    rw [twN, if_pos ⟨rfl, h⟩, e]; rfl
  · rename_i h _ _
    have h : ¬ IntKind.i64.wrap (Int.tdiv (k % 256) 128) = 1 := h
    refine .mk [] [3] _ rfl rfl rfl rfl rfl (blk_eq (l := [tA N, tB N, Int.tmod (k % 256) 8, tF N]) ?_) rfl
    show _ = twN N 2 k
    have h : ¬ k / 128 % 2 = 1 := by rw [Int.tdiv_eq_ediv_of_nonneg (by omega), w64 (by omega) (by omega)] at h; omega
    have e : Int.tmod (k % 256) 8 = k % 8 := by rw [Int.tmod_eq_emod_of_nonneg (by omega)]; omega
    rw [twN, if_neg (fun e => h e.2), e]; rfl
  · rename_i h0 h1 h2
    refine .mk [] [3] _ rfl rfl rfl rfl rfl (blk_eq (l := timN N) ?_) rfl
    show _ = twN N a k
    simp only [twN, timN_eq, if_neg h0, if_neg h1, if_neg h2]
    rw [if_neg (fun e => h2 e.1)]

end Go.Proofs.Ytjggjnjmnmdgaaa
