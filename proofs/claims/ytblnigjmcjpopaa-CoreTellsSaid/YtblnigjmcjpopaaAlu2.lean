/- The steps of a processor: two bytes, shifts, the whole step. -/
import Derived.Test.YtblnigjmcjpopaaAlu
namespace Go.Proofs.Ytblnigjmcjpopaa
open Go.Fw
set_option linter.unusedVariables false
set_option linter.unusedSimpArgs false
set_option maxRecDepth 100000

theorem fitB_in (r : List Int) (n : Nat) : 0 ≤ (fitR r).getD n 0 ∧ (fitR r).getD n 0 < 65536 := by
  match n with
  | 0 | 1 | 2 | 3 | 4 | 5 | 6 | 7 | 8 => simp [fitR]; omega
  | n + 9 => simp [fitR]
theorem fit_4 (r : List Int) : 0 ≤ (fitR r).getD 4 0 ∧ (fitR r).getD 4 0 < 256 := by simp [fitR]; omega
theorem okT_nat {t : Int} (h : okT t) : 0 ≤ t ∧ t < ((9 : Nat) : Int) := by unfold okT at h; omega
theorem okT_lt {t : Int} (h : okT t) : t.toNat < 9 := by unfold okT at h; omega
abbrev aV (t : Int) (F : List Int) : Int := F.getD t.toNat 0 % 256
abbrev cV (F : List Int) : Int := F.getD 4 0 % 2
def logV (d a b : Int) : Int := if d = 7 then land .i64 a b else if d = 8 then lor .i64 a b else lxor .i64 a b
def binF (d t f : Int) (F : List Int) : List Int :=
  if d = 4 then (F.set 4 (resV (F.getD 4 0) ((aV t F + aV f F + cV F) % 256) ((aV t F + aV f F + cV F) / 256))).set t.toNat ((aV t F + aV f F + cV F) % 256)
  else if d = 5 then (F.set 4 (resV (F.getD 4 0) ((aV t F - aV f F - (1 - cV F)) % 256) (1 - borV (aV t F - aV f F - (1 - cV F))))).set t.toNat ((aV t F - aV f F - (1 - cV F)) % 256)
  else if d = 6 then F.set 4 (flagV (nzV (F.getD 4 0) ((aV t F - aV f F) % 256)) 1 (decide (borV (aV t F - aV f F) = 0)))
  else (F.set 4 (nzV (F.getD 4 0) (logV d (aV t F) (aV f F)))).set t.toNat (logV d (aV t F) (aV f F))
theorem pow8 : (2 : Int) ^ 8 = 256 := by decide
theorem wbor (x : Int) : IntKind.i64.wrap (1 - borV x) = 1 - borV x := by unfold borV; split <;> decide
theorem i8 : Int.toNat 8 = 8 := rfl
def okBin (d t f : Int) (r : List Int) : Prop := okT t ∧ okT f ∧ ∃ q, r = fitR q
theorem set_set4 (F : List Int) (x y : Int) : (F.set 4 x).set 4 y = F.set 4 y := by simp
theorem get_set4 {F : List Int} (h : F.length = 9) (x : Int) : (F.set 4 x).getD 4 0 = x := by
  rw [List.getD_eq_getElem?_getD, List.getElem?_set]; simp [h]
def binS : PSpec := ⟨[gi, gi, gi, gR], fun (d, t, f, r, _) => (some (okBin d t f r), .agg [.run .i64 9 (binF d t f r)], [])⟩
theorem bin_ok : Good Try.prog 139 binS.spec := by
  have hT := tab_ok (fs := [(141, flagS.spec), (138, nzS.spec), (181, carryS.spec), (182, resultS.spec), (180, add8S.spec), (183, sub8S.spec), (70, lowM.spec)]) tree_ok
  have hP : SpecsOk Try.prog (tab tree [(141, flagS.spec), (138, nzS.spec), (181, carryS.spec), (182, resultS.spec), (180, add8S.spec), (183, sub8S.spec), (70, lowM.spec)]) := specs_cons flag_ok (specs_cons nz_ok (specs_cons carry_ok (specs_cons result_ok (specs_cons add8_ok (specs_cons sub8_ok (specs_cons lowM_ok specs_nil))))))
  refine binS.good (fn := Try.f139) hT hP Try.func139 (by kernel_rfl) rfl fun (d t f : Int) (r : List Int) hp => ?_
  obtain ⟨ht, hf, q, rfl⟩ : okBin d t f r := hp _ rfl
  have ht1 := okT_nat ht
  have hf1 := okT_nat hf
  have ht2 := okT_lt ht
  have hf2 := okT_lt hf
  have hl : (fitR q).length = 9 := rfl
  have hc := fit_4 q
  have hlc : land .i64 ((fitR q).getD 4 0) 1 = (fitR q).getD 4 0 % 2 := land1e _
  have hw1 : IntKind.i64.wrap (1 - (fitR q).getD 4 0 % 2) = 1 - (fitR q).getD 4 0 % 2 := w64 (by omega) (by omega)
  clear hp
  repeat' first
    | (refine Go.mk ?_; conv => whnf)
    | refine Need.go ?_ ?_
    | refine NilG.go (fun _ => ?_) (fun _ => ?_)
    | refine Br.dec (fun _ => ?_) (fun _ => ?_)
    | refine Br.go (fun _ => ?_) (fun _ => ?_)
    | refine draw_go hT hP mixed ?_
    | refine round_go hT hP ?_
  all_goals first
    | exact of_decide_eq_true rfl
    | exact ht1
    | exact hf1
    | exact ht2
    | exact hf2
    | exact ⟨rfl, ht⟩
    | exact rfl
    | skip
  all_goals (try refine .mk [] [] _ rfl rfl rfl rfl rfl rfl (agg9 ?_))
  all_goals clear hT hP
  all_goals (simp only [i8, pow8, hlc, hw1, wbor])
  all_goals (try (unfold okAB bitC; omega))
  all_goals (clear ht1 hf1 ht2 hf2 hlc hw1)
  all_goals (try simp_all [binF, logV, aV, cV])
  all_goals (try rfl)

def shF (d t : Int) (F : List Int) : List Int :=
  if d = 12 then (F.set 4 (resV (F.getD 4 0) ((F.getD t.toNat 0 * 2 + 0) % 256) (F.getD t.toNat 0 % 256 / 128))).set t.toNat ((F.getD t.toNat 0 * 2 + 0) % 256)
  else if d = 14 then (F.set 4 (resV (F.getD 4 0) ((F.getD t.toNat 0 * 2 + cV F) % 256) (F.getD t.toNat 0 % 256 / 128))).set t.toNat ((F.getD t.toNat 0 * 2 + cV F) % 256)
  else if d = 13 then (F.set 4 (resV (F.getD 4 0) (F.getD t.toNat 0 % 256 / 2 + 128 * 0) (F.getD t.toNat 0 % 2))).set t.toNat (F.getD t.toNat 0 % 256 / 2 + 128 * 0)
  else (F.set 4 (resV (F.getD 4 0) (F.getD t.toNat 0 % 256 / 2 + 128 * cV F) (F.getD t.toNat 0 % 2))).set t.toNat (F.getD t.toNat 0 % 256 / 2 + 128 * cV F)
def okSh (t : Int) (r : List Int) : Prop := okT t ∧ ∃ q, r = fitR q
def shS : PSpec := ⟨[gi, gi, gR], fun (d, t, r, _) => (some (okSh t r), .agg [.run .i64 9 (shF d t r)], [])⟩
theorem sh_ok : Good Try.prog 140 shS.spec := by
  have hT := tab_ok (fs := [(181, carryS.spec), (182, resultS.spec), (184, rol8S.spec), (185, ror8S.spec)]) tree_ok
  have hP : SpecsOk Try.prog (tab tree [(181, carryS.spec), (182, resultS.spec), (184, rol8S.spec), (185, ror8S.spec)]) := specs_cons carry_ok (specs_cons result_ok (specs_cons rol8_ok (specs_cons ror8_ok specs_nil)))
  refine shS.good (fn := Try.f140) hT hP Try.func140 (by kernel_rfl) rfl fun (d t : Int) (r : List Int) hp => ?_
  obtain ⟨ht, q, rfl⟩ : okSh t r := hp _ rfl
  have ht1 := okT_nat ht
  have ht2 := okT_lt ht
  have hl : (fitR q).length = 9 := rfl
  have hc := fit_4 q
  have hlc : land .i64 ((fitR q).getD 4 0) 1 = (fitR q).getD 4 0 % 2 := land1e _
  clear hp
  repeat' first
    | (refine Go.mk ?_; conv => whnf)
    | refine Need.go ?_ ?_
    | refine NilG.go (fun _ => ?_) (fun _ => ?_)
    | refine Br.dec (fun _ => ?_) (fun _ => ?_)
    | refine Br.go (fun _ => ?_) (fun _ => ?_)
    | refine draw_go hT hP mixed ?_
    | refine round_go hT hP ?_
  all_goals first
    | exact of_decide_eq_true rfl
    | exact ht1
    | exact ht2
    | exact ⟨rfl, ht⟩
    | exact rfl
    | exact ⟨.inl rfl, rfl⟩
    | skip
  all_goals (try refine .mk [] [] _ rfl rfl rfl rfl rfl rfl (agg9 ?_))
  all_goals clear hT hP
  all_goals (try rw [hlc])
  all_goals (try (unfold okN bitC; omega))
  all_goals (clear ht1 ht2 hlc)
  all_goals (try simp_all [shF, cV])
  all_goals trace_state

end Go.Proofs.Ytblnigjmcjpopaa
