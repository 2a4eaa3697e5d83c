/- The steps of a processor: the whole step. -/
import Derived.Test.YtblnigjmcjpopaaAlu2
namespace Go.Proofs.Ytblnigjmcjpopaa
open Go.Fw
set_option linter.unusedVariables false
set_option linter.unusedSimpArgs false
set_option maxRecDepth 100000

abbrev gS : Sig := ⟨true, StepT⟩
theorem w_0 : IntKind.i64.wrap 0 = 0 := by decide
theorem w_1 : IntKind.i64.wrap 1 = 1 := by decide
theorem w_2 : IntKind.i64.wrap 2 = 2 := by decide
theorem w_8 : IntKind.i64.wrap 8 = 8 := by decide
def incN (d t : Int) (F : List Int) : Int := (F.getD t.toNat 0 + 1 - 2 * (d - 10)) % cond (wideB t) 65536 256
def incF (d t : Int) (F : List Int) : List Int := if wideB t = true then F.set t.toNat (incN d t F) else (F.set 4 (nzV (F.getD 4 0) (incN d t F))).set t.toNat (incN d t F)
def stepX (d n t f : Int) (F : List Int) : List Int :=
  if d = 1 then F.set t.toNat (F.getD f.toNat 0) else if d = 2 then F.set t.toNat n else if d = 3 then F.set 4 (nzV (F.getD 4 0) (F.getD t.toNat 0 % 256))
  else if 4 ≤ d ∧ d ≤ 9 then binF d t f F else if d = 10 ∨ d = 11 then incF d t F else if 12 ≤ d ∧ d ≤ 15 then shF d t F
  else if d = 16 then F.set 4 (flagV (F.getD 4 0) (n % 256) true) else if d = 17 then F.set 4 (flagV (F.getD 4 0) (n % 256) false)
  else if d = 18 then F.set t.toNat (256 * (F.getD t.toNat 0 / 256) + F.getD f.toNat 0 % 256) else if d = 19 then F.set t.toNat (256 * (256 * (F.getD t.toNat 0 / 65536) + F.getD f.toNat 0 % 256) + F.getD t.toNat 0 % 256)
  else if d = 20 then F.set t.toNat (F.getD f.toNat 0 % 256) else if d = 21 then F.set t.toNat (F.getD f.toNat 0 / 256 % 256)
  else if d = 22 then F.set t.toNat (F.getD t.toNat 0 + F.getD f.toNat 0 % 256) else if d = 23 then F.set t.toNat (F.getD t.toNat 0 + (F.getD f.toNat 0 % 256 - F.getD f.toNat 0 % 256 / 128 * 256)) else F
theorem binF_len (d t f : Int) (F : List Int) : (binF d t f F).length = F.length := by unfold binF; (repeat' split) <;> simp
theorem shF_len (d t : Int) (F : List Int) : (shF d t F).length = F.length := by unfold shF; (repeat' split) <;> simp
theorem incF_len (d t : Int) (F : List Int) : (incF d t F).length = F.length := by unfold incF; (repeat' split) <;> simp
def doR (s : Stp) (r : List Int) : List Int := if s.1 = 24 then fitR r else fitR (stepX s.1 s.2.2.2 (clampR s.2.1) (clampR s.2.2.1) (fitR r))
def doE (s : Stp) (r : List Int) : Bool := decide (s.1 = 24) && ((land .i64 ((fitR r).getD 4 0) (s.2.2.2 % 256) != 0) != decide (s.2.2.1 = 1))
theorem tupRB {l l' : List Int} {b b' : Bool} (h : l = l') (h2 : b = b') : AV.tup [.agg [.run .i64 9 l], .c (bv b)] = AV.tup [.agg [.run .i64 9 l'], .c (bv b')] := by rw [h, h2]
def doS : PSpec := ⟨[gS, gR], fun (s, r, _) => (some (List.length r = 9), .tup [.agg [.run .i64 9 (doR s r)], .c (bv (doE s r))], [])⟩
theorem mb {t : Int} : (2 : Int) ^ (Int.toNat (cond (wideB t) 16 8)) = cond (wideB t) 65536 256 := by cases wideB t <;> decide
theorem bits_in (t : Int) : 0 ≤ cond (wideB t) (16 : Int) 8 ∧ cond (wideB t) (16 : Int) 8 ≤ 62 := by cases wideB t <;> decide
set_option maxHeartbeats 8000000 in
theorem do_ok : Good Try.prog 74 doS.spec := by
  have hT := tab_ok (fs := [(137, aIndexS.spec), (71, fitS.spec), (141, flagS.spec), (138, nzS.spec), (136, aBitsS.spec), (20, wideS.spec), (139, binS.spec), (140, shS.spec), (70, lowM.spec), (143, getM.spec), (142, putM.spec), (144, sgn8S.spec)]) tree_ok
  have hP : SpecsOk Try.prog (tab tree [(137, aIndexS.spec), (71, fitS.spec), (141, flagS.spec), (138, nzS.spec), (136, aBitsS.spec), (20, wideS.spec), (139, binS.spec), (140, shS.spec), (70, lowM.spec), (143, getM.spec), (142, putM.spec), (144, sgn8S.spec)]) := specs_cons aIndex_ok (specs_cons aFit_ok (specs_cons flag_ok (specs_cons nz_ok (specs_cons aBits_ok (specs_cons tWide_ok (specs_cons bin_ok (specs_cons sh_ok (specs_cons lowM_ok (specs_cons getM_ok (specs_cons putM_ok (specs_cons sgn8_ok specs_nil)))))))))))
  refine doS.good (fn := Try.f74) hT hP Try.func74 (by kernel_rfl) rfl fun (s : Stp) (r : List Int) hp => ?_
  obtain ⟨d, to, fr, n⟩ := s
  have h9 : r.length = 9 := hp _ rfl
  have ht : okT (clampR to) := clamp_in to
  have hf : okT (clampR fr) := clamp_in fr
  have ht1 := okT_nat ht
  have hf1 := okT_nat hf
  have ht2 := okT_lt ht
  have hf2 := okT_lt hf
  have hl : (fitR r).length = 9 := rfl
  have hb := bits_in (clampR to)
  clear hp
  repeat' first
    | (refine Go.mk ?_; conv => whnf)
    | refine Need.go ?_ ?_
    | refine NilG.go (fun _ => ?_) (fun _ => ?_)
    | refine Br.dec (fun _ => ?_) (fun _ => ?_)
    | refine Br.go (fun _ => ?_) (fun _ => ?_)
    | refine draw_go hT hP mixed ?_
    | refine round_go hT hP ?_
  all_goals first
    | exact of_decide_eq_true rfl
    | exact h9
    | exact ht1
    | exact hf1
    | exact ht2
    | exact hf2
    | exact hb
    | exact ⟨ht, hf, _, rfl⟩
    | exact ⟨ht, _, rfl⟩
    | exact ⟨rfl, ht⟩
    | exact rfl
    | skip
  all_goals (try refine .mk [] [] _ rfl rfl rfl rfl rfl rfl (tupRB ?_ ?_))
  all_goals clear hT hP
  all_goals (dsimp only at *)
  all_goals (try (simp only [List.length_set, binF_len, shF_len, hl]; done))
  all_goals (try (rename_i h; simp [doE, h]; done))
  all_goals
    have bA := fitB_in r (clampR to).toNat
    have bB := fitB_in r (clampR fr).toNat
    clear ht1 hf1 ht2 hf2 hb
  all_goals (try simp only [doR, stepX, incF, incN, doE])
  all_goals
    generalize (fitR r).getD (clampR to).toNat 0 = A at *
    generalize (fitR r).getD (clampR fr).toNat 0 = B at *
  all_goals
    have hA1 : IntKind.i64.wrap (A + 1) = A + 1 := w64 (by omega) (by omega)
    have hA2 : IntKind.i64.wrap (A + 1 - 2) = A + 1 - 2 := w64 (by omega) (by omega)
    have hA3 : IntKind.i64.wrap (A + B % 256) = A + B % 256 := w64 (by omega) (by omega)
    have hA4 : IntKind.i64.wrap (A + (B % 256 - B % 256 / 128 * 256)) = A + (B % 256 - B % 256 / 128 * 256) := w64 (by omega) (by omega)
    have hA5 : A < 4611686018427387904 := by omega
    have hA6 : B < 4611686018427387904 := by omega
  all_goals (try simp_all [w_0, w_1, w_2, w_8])
  all_goals (try omega)
  · show ((land .i64 (fitR r)[4] (n % 256) != 0) == decide (fr = 1)) = !((land .i64 (fitR r)[4] (n % 256) != 0) != decide (fr = 1))
    cases (land .i64 (fitR r)[4] (n % 256) != 0) <;> cases decide (fr = 1) <;> rfl
  · rw [if_neg (by omega), if_neg (by omega)]

end Go.Proofs.Ytblnigjmcjpopaa
