/- Part 7 of the proof: Alu2 Alu3 StepRef Stepped CoreAsks Tell2 CoreLaw CoreTells Fw37 Fw38. No statement is handed in here; conditions: none. -/
import Derived.Test.YtanaaecfghmmaaaG6
/- The steps of a processor: two bytes, shifts, the whole step. -/
namespace Go.Proofs.Ytanaaecfghmmaaa
open Go.Fw
set_option linter.unusedVariables false
set_option linter.unusedSimpArgs false
set_option maxRecDepth 100000

theorem fitB_in (r : List Int) (n : Nat) : 0 ≤ (fitR r).getD n 0 ∧ (fitR r).getD n 0 < 65536 := by
  match n with
  | 0 | 1 | 2 | 3 | 4 | 5 | 6 | 7 | 8 => simp [fitR]; omega
  | n + 9 => simp [fitR]
theorem fit_4 (r : List Int) : 0 ≤ (fitR r).getD 4 0 ∧ (fitR r).getD 4 0 < 256 := by simp [fitR]; omega
theorem okT_nat {t : Int} (h : okT t) : 0 ≤ t ∧ t < ((9 : Nat) : Int) := by unfold okT at h; omega
theorem okT_lt {t : Int} (h : okT t) : t.toNat < 9 := by unfold okT at h; omega
abbrev aV (t : Int) (F : List Int) : Int := F.getD t.toNat 0 % 256
abbrev cV (F : List Int) : Int := F.getD 4 0 % 2
def logV (d a b : Int) : Int := if d = 7 then land .i64 a b else if d = 8 then lor .i64 a b else lxor .i64 a b
def binF (d t f : Int) (F : List Int) : List Int :=
  if d = 4 then (F.set 4 (resV (F.getD 4 0) ((aV t F + aV f F + cV F) % 256) ((aV t F + aV f F + cV F) / 256))).set t.toNat ((aV t F + aV f F + cV F) % 256)
  else if d = 5 then (F.set 4 (resV (F.getD 4 0) ((aV t F - aV f F - (1 - cV F)) % 256) (1 - borV (aV t F - aV f F - (1 - cV F))))).set t.toNat ((aV t F - aV f F - (1 - cV F)) % 256)
  else if d = 6 then F.set 4 (flagV (nzV (F.getD 4 0) ((aV t F - aV f F) % 256)) 1 (decide (borV (aV t F - aV f F) = 0)))
  else (F.set 4 (nzV (F.getD 4 0) (logV d (aV t F) (aV f F)))).set t.toNat (logV d (aV t F) (aV f F))
theorem pow8 : (2 : Int) ^ 8 = 256 := by decide
theorem wbor (x : Int) : IntKind.i64.wrap (1 - borV x) = 1 - borV x := by unfold borV; split <;> decide
theorem i8 : Int.toNat 8 = 8 := rfl
def okBin (d t f : Int) (r : List Int) : Prop := okT t ∧ okT f ∧ ∃ q, r = fitR q
theorem set_set4 (F : List Int) (x y : Int) : (F.set 4 x).set 4 y = F.set 4 y := by simp
theorem get_set4 {F : List Int} (h : F.length = 9) (x : Int) : (F.set 4 x).getD 4 0 = x := by
  rw [List.getD_eq_getElem?_getD, List.getElem?_set]; simp [h]
def binS : PSpec := ⟨[gi, gi, gi, gR], fun (d, t, f, r, _) => (some (okBin d t f r), .agg [.run .i64 9 (binF d t f r)], [])⟩
theorem bin_ok : GoodF Try.prog 120 binS.spec := by
  have hT := tab_ok (fs := [(122, flagS.spec), (119, nzS.spec), (132, carryS.spec), (133, resultS.spec), (131, add8S.spec), (134, sub8S.spec), (79, lowM.spec)]) tree_ok
  have hP : SpecsOk Try.prog (tab tree [(122, flagS.spec), (119, nzS.spec), (132, carryS.spec), (133, resultS.spec), (131, add8S.spec), (134, sub8S.spec), (79, lowM.spec)]) := specs_cons flag_ok (specs_cons nz_ok (specs_cons carry_ok (specs_cons result_ok (specs_cons add8_ok (specs_cons sub8_ok (specs_cons lowM_ok specs_nil))))))
  refine binS.good (fn := Try.f120) hT hP Try.func120 (by kernel_rfl) rfl fun (d t f : Int) (r : List Int) hp => ?_
  obtain ⟨ht, hf, q, rfl⟩ : okBin d t f r := hp _ rfl
  have ht1 := okT_nat ht
  have hf1 := okT_nat hf
  have ht2 := okT_lt ht
  have hf2 := okT_lt hf
  have hl : (fitR q).length = 9 := rfl
  have hc := fit_4 q
  have hlc : land .i64 ((fitR q).getD 4 0) 1 = (fitR q).getD 4 0 % 2 := land1e _
  have hw1 : IntKind.i64.wrap (1 - (fitR q).getD 4 0 % 2) = 1 - (fitR q).getD 4 0 % 2 := w64 (by omega) (by omega)
  clear hp
  repeat' first
    | (refine Go.mk ?_; conv => whnf)
    | refine Need.go ?_ ?_
    | refine NilG.go (fun _ => ?_) (fun _ => ?_)
    | refine Br.dec (fun _ => ?_) (fun _ => ?_)
    | refine Br.go (fun _ => ?_) (fun _ => ?_)
    | refine draw_go hT hP mixed ?_
    | refine round_go hT hP ?_
  all_goals first
    | exact of_decide_eq_true rfl
    | exact ht1
    | exact hf1
    | exact ht2
    | exact hf2
    | exact ⟨rfl, ht⟩
    | exact rfl
    | skip
  all_goals (try refine .mk [] [] _ rfl rfl rfl rfl rfl rfl (agg9 ?_))
  all_goals clear hT hP
  all_goals (simp only [i8, pow8, hlc, hw1, wbor])
  all_goals (try (unfold okAB bitC; omega))
  all_goals (clear ht1 hf1 ht2 hf2 hlc hw1)
  all_goals (try simp_all [binF, logV, aV, cV])
  all_goals (try rfl)

def shF (d t : Int) (F : List Int) : List Int :=
  if d = 12 then (F.set 4 (resV (F.getD 4 0) ((F.getD t.toNat 0 * 2 + 0) % 256) (F.getD t.toNat 0 % 256 / 128))).set t.toNat ((F.getD t.toNat 0 * 2 + 0) % 256)
  else if d = 14 then (F.set 4 (resV (F.getD 4 0) ((F.getD t.toNat 0 * 2 + cV F) % 256) (F.getD t.toNat 0 % 256 / 128))).set t.toNat ((F.getD t.toNat 0 * 2 + cV F) % 256)
  else if d = 13 then (F.set 4 (resV (F.getD 4 0) (F.getD t.toNat 0 % 256 / 2 + 128 * 0) (F.getD t.toNat 0 % 2))).set t.toNat (F.getD t.toNat 0 % 256 / 2 + 128 * 0)
  else (F.set 4 (resV (F.getD 4 0) (F.getD t.toNat 0 % 256 / 2 + 128 * cV F) (F.getD t.toNat 0 % 2))).set t.toNat (F.getD t.toNat 0 % 256 / 2 + 128 * cV F)
def okSh (t : Int) (r : List Int) : Prop := okT t ∧ ∃ q, r = fitR q
def shS : PSpec := ⟨[gi, gi, gR], fun (d, t, r, _) => (some (okSh t r), .agg [.run .i64 9 (shF d t r)], [])⟩
theorem sh_ok : GoodF Try.prog 121 shS.spec := by
  have hT := tab_ok (fs := [(132, carryS.spec), (133, resultS.spec), (135, rol8S.spec), (136, ror8S.spec)]) tree_ok
  have hP : SpecsOk Try.prog (tab tree [(132, carryS.spec), (133, resultS.spec), (135, rol8S.spec), (136, ror8S.spec)]) := specs_cons carry_ok (specs_cons result_ok (specs_cons rol8_ok (specs_cons ror8_ok specs_nil)))
  refine shS.good (fn := Try.f121) hT hP Try.func121 (by kernel_rfl) rfl fun (d t : Int) (r : List Int) hp => ?_
  obtain ⟨ht, q, rfl⟩ : okSh t r := hp _ rfl
  have ht1 := okT_nat ht
  have ht2 := okT_lt ht
  have hl : (fitR q).length = 9 := rfl
  have hc := fit_4 q
  have hlc : land .i64 ((fitR q).getD 4 0) 1 = (fitR q).getD 4 0 % 2 := land1e _
  clear hp
  repeat' first
    | (refine Go.mk ?_; conv => whnf)
    | refine Need.go ?_ ?_
    | refine NilG.go (fun _ => ?_) (fun _ => ?_)
    | refine Br.dec (fun _ => ?_) (fun _ => ?_)
    | refine Br.go (fun _ => ?_) (fun _ => ?_)
    | refine draw_go hT hP mixed ?_
    | refine round_go hT hP ?_
  all_goals first
    | exact of_decide_eq_true rfl
    | exact ht1
    | exact ht2
    | exact ⟨rfl, ht⟩
    | exact rfl
    | exact ⟨.inl rfl, rfl⟩
    | skip
  all_goals (try refine .mk [] [] _ rfl rfl rfl rfl rfl rfl (agg9 ?_))
  all_goals clear hT hP
  all_goals (try rw [hlc])
  all_goals (try (unfold okN bitC; omega))
  all_goals (clear ht1 ht2 hlc)
  all_goals (try simp_all [shF, cV])
  all_goals trace_state

end Go.Proofs.Ytanaaecfghmmaaa

/- The steps of a processor: the whole step. -/
namespace Go.Proofs.Ytanaaecfghmmaaa
open Go.Fw
set_option linter.unusedVariables false
set_option linter.unusedSimpArgs false
set_option maxRecDepth 100000

abbrev gS : Sig := ⟨true, StepT⟩
theorem w_0 : IntKind.i64.wrap 0 = 0 := by decide
theorem w_1 : IntKind.i64.wrap 1 = 1 := by decide
theorem w_2 : IntKind.i64.wrap 2 = 2 := by decide
theorem w_8 : IntKind.i64.wrap 8 = 8 := by decide
def incN (d t : Int) (F : List Int) : Int := (F.getD t.toNat 0 + 1 - 2 * (d - 10)) % cond (wideB t) 65536 256
def incF (d t : Int) (F : List Int) : List Int := if wideB t = true then F.set t.toNat (incN d t F) else (F.set 4 (nzV (F.getD 4 0) (incN d t F))).set t.toNat (incN d t F)
def stepX (d n t f : Int) (F : List Int) : List Int :=
  if d = 1 then F.set t.toNat (F.getD f.toNat 0) else if d = 2 then F.set t.toNat n else if d = 3 then F.set 4 (nzV (F.getD 4 0) (F.getD t.toNat 0 % 256))
  else if 4 ≤ d ∧ d ≤ 9 then binF d t f F else if d = 10 ∨ d = 11 then incF d t F else if 12 ≤ d ∧ d ≤ 15 then shF d t F
  else if d = 16 then F.set 4 (flagV (F.getD 4 0) (n % 256) true) else if d = 17 then F.set 4 (flagV (F.getD 4 0) (n % 256) false)
  else if d = 18 then F.set t.toNat (256 * (F.getD t.toNat 0 / 256) + F.getD f.toNat 0 % 256) else if d = 19 then F.set t.toNat (256 * (256 * (F.getD t.toNat 0 / 65536) + F.getD f.toNat 0 % 256) + F.getD t.toNat 0 % 256)
  else if d = 20 then F.set t.toNat (F.getD f.toNat 0 % 256) else if d = 21 then F.set t.toNat (F.getD f.toNat 0 / 256 % 256)
  else if d = 22 then F.set t.toNat (F.getD t.toNat 0 + F.getD f.toNat 0 % 256) else if d = 23 then F.set t.toNat (F.getD t.toNat 0 + (F.getD f.toNat 0 % 256 - F.getD f.toNat 0 % 256 / 128 * 256)) else F
theorem binF_len (d t f : Int) (F : List Int) : (binF d t f F).length = F.length := by unfold binF; (repeat' split) <;> simp
theorem shF_len (d t : Int) (F : List Int) : (shF d t F).length = F.length := by unfold shF; (repeat' split) <;> simp
theorem incF_len (d t : Int) (F : List Int) : (incF d t F).length = F.length := by unfold incF; (repeat' split) <;> simp
def doR (s : Stp) (r : List Int) : List Int := if s.1 = 24 then fitR r else fitR (stepX s.1 s.2.2.2 (clampR s.2.1) (clampR s.2.2.1) (fitR r))
def doE (s : Stp) (r : List Int) : Bool := decide (s.1 = 24) && ((land .i64 ((fitR r).getD 4 0) (s.2.2.2 % 256) != 0) != decide (s.2.2.1 = 1))
theorem tupRB {l l' : List Int} {b b' : Bool} (h : l = l') (h2 : b = b') : AV.tup [.agg [.run .i64 9 l], .c (bv b)] = AV.tup [.agg [.run .i64 9 l'], .c (bv b')] := by rw [h, h2]
def doS : PSpec := ⟨[gS, gR], fun (s, r, _) => (some (List.length r = 9), .tup [.agg [.run .i64 9 (doR s r)], .c (bv (doE s r))], [])⟩
theorem mb {t : Int} : (2 : Int) ^ (Int.toNat (cond (wideB t) 16 8)) = cond (wideB t) 65536 256 := by cases wideB t <;> decide
theorem bits_in (t : Int) : 0 ≤ cond (wideB t) (16 : Int) 8 ∧ cond (wideB t) (16 : Int) 8 ≤ 62 := by cases wideB t <;> decide
set_option maxHeartbeats 8000000 in
theorem do_ok : GoodF Try.prog 106 doS.spec := by
  have hT := tab_ok (fs := [(118, aIndexS.spec), (100, fitS.spec), (122, flagS.spec), (119, nzS.spec), (116, aBitsS.spec), (25, wideS.spec), (120, binS.spec), (121, shS.spec), (79, lowM.spec), (124, getM.spec), (123, putM.spec), (125, sgn8S.spec)]) tree_ok
  have hP : SpecsOk Try.prog (tab tree [(118, aIndexS.spec), (100, fitS.spec), (122, flagS.spec), (119, nzS.spec), (116, aBitsS.spec), (25, wideS.spec), (120, binS.spec), (121, shS.spec), (79, lowM.spec), (124, getM.spec), (123, putM.spec), (125, sgn8S.spec)]) := specs_cons aIndex_ok (specs_cons aFit_ok (specs_cons flag_ok (specs_cons nz_ok (specs_cons aBits_ok (specs_cons tWide_ok (specs_cons bin_ok (specs_cons sh_ok (specs_cons lowM_ok (specs_cons getM_ok (specs_cons putM_ok (specs_cons sgn8_ok specs_nil)))))))))))
  refine doS.good (fn := Try.f106) hT hP Try.func106 (by kernel_rfl) rfl fun (s : Stp) (r : List Int) hp => ?_
  obtain ⟨d, to, fr, n⟩ := s
  have h9 : r.length = 9 := hp _ rfl
  have ht : okT (clampR to) := clamp_in to
  have hf : okT (clampR fr) := clamp_in fr
  have ht1 := okT_nat ht
  have hf1 := okT_nat hf
  have ht2 := okT_lt ht
  have hf2 := okT_lt hf
  have hl : (fitR r).length = 9 := rfl
  have hb := bits_in (clampR to)
  clear hp
  repeat' first
    | (refine Go.mk ?_; conv => whnf)
    | refine Need.go ?_ ?_
    | refine NilG.go (fun _ => ?_) (fun _ => ?_)
    | refine Br.dec (fun _ => ?_) (fun _ => ?_)
    | refine Br.go (fun _ => ?_) (fun _ => ?_)
    | refine draw_go hT hP mixed ?_
    | refine round_go hT hP ?_
  all_goals first
    | exact of_decide_eq_true rfl
    | exact h9
    | exact ht1
    | exact hf1
    | exact ht2
    | exact hf2
    | exact hb
    | exact ⟨ht, hf, _, rfl⟩
    | exact ⟨ht, _, rfl⟩
    | exact ⟨rfl, ht⟩
    | exact rfl
    | skip
  all_goals (try refine .mk [] [] _ rfl rfl rfl rfl rfl rfl (tupRB ?_ ?_))
  all_goals clear hT hP
  all_goals (dsimp only at *)
  all_goals (try (simp only [List.length_set, binF_len, shF_len, hl]; done))
  all_goals (try (rename_i h; simp [doE, h]; done))
  all_goals
    have bA := fitB_in r (clampR to).toNat
    have bB := fitB_in r (clampR fr).toNat
    clear ht1 hf1 ht2 hf2 hb
  all_goals (try simp only [doR, stepX, incF, incN, doE])
  all_goals
    generalize (fitR r).getD (clampR to).toNat 0 = A at *
    generalize (fitR r).getD (clampR fr).toNat 0 = B at *
  all_goals
    have hA1 : IntKind.i64.wrap (A + 1) = A + 1 := w64 (by omega) (by omega)
    have hA2 : IntKind.i64.wrap (A + 1 - 2) = A + 1 - 2 := w64 (by omega) (by omega)
    have hA3 : IntKind.i64.wrap (A + B % 256) = A + B % 256 := w64 (by omega) (by omega)
    have hA4 : IntKind.i64.wrap (A + (B % 256 - B % 256 / 128 * 256)) = A + (B % 256 - B % 256 / 128 * 256) := w64 (by omega) (by omega)
    have hA5 : A < 4611686018427387904 := by omega
    have hA6 : B < 4611686018427387904 := by omega
  all_goals (try simp_all [w_0, w_1, w_2, w_8])
  all_goals (try omega)
  · show ((land .i64 (fitR r)[4] (n % 256) != 0) == decide (fr = 1)) = !((land .i64 (fitR r)[4] (n % 256) != 0) != decide (fr = 1))
    cases (land .i64 (fitR r)[4] (n % 256) != 0) <;> cases decide (fr = 1) <;> rfl
  · rw [if_neg (by omega), if_neg (by omega)]

end Go.Proofs.Ytanaaecfghmmaaa

/- The steps of a processor in the reference: flags, sums, shifts. -/
namespace Go.Proofs.Ytanaaecfghmmaaa
open Go.Fw
set_option linter.unusedVariables false
set_option linter.unusedSimpArgs false
set_option maxRecDepth 100000

def limF (n lo hi : Int) : Int := if n < lo then lo else if n > hi then hi else n
def lmtS : PSpec := ⟨[gi, gi, gi], fun (n, lo, hi, _) => (none, I (limF n lo hi), [])⟩
theorem lmt_ok : GoodF Try.prog 96 lmtS.spec := by
  have hT := tab_ok (fs := []) tree_ok
  have hP : SpecsOk Try.prog (tab tree []) := specs_nil
  refine lmtS.good (fn := Try.f96) hT hP Try.func96 (by kernel_rfl) rfl fun (n lo hi : Int) hp => ?_
  repeat' first
    | (refine Go.mk ?_; conv => whnf)
    | refine Need.go ?_ ?_
    | refine NilG.go (fun _ => ?_) (fun _ => ?_)
    | refine Br.dec (fun _ => ?_) (fun _ => ?_)
    | refine Br.go (fun _ => ?_) (fun _ => ?_)
    | refine draw_go hT hP mixed ?_
    | refine round_go hT hP ?_
  all_goals
    refine .mk [] [] _ rfl rfl rfl rfl rfl rfl (imm_int ?_)
    show _ = limF n lo hi
    dsimp only [gi, Den] at *
    unfold limF
    split <;> (try split) <;> omega
theorem lim_clamp (n : Int) : limF n 0 8 = clampR n := by unfold limF clampR; split <;> (try split) <;> omega

def rfV (p n c : Int) : Int :=
  let q := landNot .i64 p 130
  let q := if n = 0 then lor .i64 q 2 else q
  let q := lor .i64 q (land .i64 n 128)
  if c ≥ 0 then lor .i64 (landNot .i64 q 1) c else q
def rflagsS : PSpec := ⟨[gi, gi, gi], fun (p, n, c, _) => (none, I (rfV p n c), [])⟩
theorem rflags_ok : GoodF Try.prog 97 rflagsS.spec := by
  have hT := tab_ok (fs := []) tree_ok
  have hP : SpecsOk Try.prog (tab tree []) := specs_nil
  refine rflagsS.good (fn := Try.f97) hT hP Try.func97 (by kernel_rfl) rfl fun (p n c : Int) hp => ?_
  repeat' first
    | (refine Go.mk ?_; conv => whnf)
    | refine Need.go ?_ ?_
    | refine NilG.go (fun _ => ?_) (fun _ => ?_)
    | refine Br.dec (fun _ => ?_) (fun _ => ?_)
    | refine Br.go (fun _ => ?_) (fun _ => ?_)
    | refine draw_go hT hP mixed ?_
    | refine round_go hT hP ?_
  all_goals
    refine .mk [] [] _ rfl rfl rfl rfl rfl rfl (imm_int ?_)
    show _ = rfV p n c
    simp_all [rfV] <;> (intro h; exfalso; omega)
theorem land128 : ∀ n : Int, 0 ≤ n → n < 256 → land .i64 n 128 = if n ≥ 128 then 128 else 0 := fin256 (fun n => land .i64 n 128 = if n ≥ 128 then 128 else 0) (by decide +kernel)
def rfB (p : Int) (z m : Bool) : Int := lor .i64 (cond z (lor .i64 (landNot .i64 p 130) 2) (landNot .i64 p 130)) (cond m 128 0)
theorem rfB_eq (z m : Bool) : ∀ p : Int, 0 ≤ p → p < 256 → rfB p z m = flagV (flagV p 2 z) 128 m := by
  cases z <;> cases m
  · exact fin256 (fun p => rfB p false false = flagV (flagV p 2 false) 128 false) (by decide +kernel)
  · exact fin256 (fun p => rfB p false true = flagV (flagV p 2 false) 128 true) (by decide +kernel)
  · exact fin256 (fun p => rfB p true false = flagV (flagV p 2 true) 128 false) (by decide +kernel)
  · exact fin256 (fun p => rfB p true true = flagV (flagV p 2 true) 128 true) (by decide +kernel)
theorem rf_b {p n : Int} (hn : 0 ≤ n ∧ n < 256) : lor .i64 (if n = 0 then lor .i64 (landNot .i64 p 130) 2 else landNot .i64 p 130) (land .i64 n 128) = rfB p (decide (n = 0)) (decide (n ≥ 128)) := by
  rw [land128 n hn.1 hn.2]
  unfold rfB
  by_cases h1 : n = 0 <;> by_cases h2 : n ≥ 128 <;> simp [h1, h2]
theorem rf_nz {p n : Int} (hp : 0 ≤ p ∧ p < 256) (hn : 0 ≤ n ∧ n < 256) : rfV p n (-1) = nzV p n := by
  unfold rfV nzV
  simp only [rf_b hn]
  rw [if_neg (by omega), rfB_eq _ _ p hp.1 hp.2]
theorem or_0 (x : Int) : lor .i64 (landNot .i64 x 1) 0 = landNot .i64 x 1 := by
  show IntKind.i64.wrap (((BitVec.ofInt 64 (landNot .i64 x 1) ||| BitVec.ofInt 64 0).toNat : Nat) : Int) = _
  have : BitVec.ofInt 64 (landNot .i64 x 1) ||| BitVec.ofInt 64 0 = BitVec.ofInt 64 (landNot .i64 x 1) := by simp
  rw [this, ofInt_toNat]
  have hb : landNot .i64 x 1 = IntKind.i64.wrap (((BitVec.ofInt 64 x &&& ~~~(BitVec.ofInt 64 1)).toNat : Nat) : Int) := rfl
  generalize ((BitVec.ofInt 64 x &&& ~~~(BitVec.ofInt 64 1)).toNat : Nat) = m at hb
  rw [hb, w64e, w64e]
  unfold u64
  omega
theorem rf_res {p n c : Int} (hp : 0 ≤ p ∧ p < 256) (hn : 0 ≤ n ∧ n < 256) (hc : c = 0 ∨ c = 1) : rfV p n c = resV p n c := by
  unfold rfV resV
  simp only [rf_b hn]
  rw [rfB_eq _ _ p hp.1 hp.2]
  rcases hc with rfl | rfl
  · rw [if_pos (by omega)]
    show lor .i64 (landNot .i64 (nzV p n) 1) 0 = flagV (nzV p n) 1 (decide ((0 : Int) = 1))
    rw [or_0]; rfl
  · rw [if_pos (by omega)]; rfl

theorem mapOne (p : Prop) [Decidable p] : getOr (mapGet (kt := .bool) (vt := .int .i64) (mapPut (kt := .bool) (vt := .int .i64) [] true (1 : Int)) (decide p)) (dflt (.int .i64)) = if p then (1 : Int) else 0 := by
  by_cases h : p
  · rw [decide_eq_true h, if_pos h]; rfl
  · rw [decide_eq_false h, if_neg h]; rfl
def okSum (d a b c : Int) : Prop := (0 ≤ a ∧ a < 256) ∧ (0 ≤ b ∧ b < 256) ∧ bitC c
def sumN (d a b c : Int) : Int := if d = 4 then (a + b + c) % 256 else if d = 5 then (a - b - (1 - c)) % 256 else (a - b) % 256
def sumC (d a b c : Int) : Int := if d = 4 then (a + b + c) / 256 else if d = 5 then 1 - borV (a - b - (1 - c)) else 1 - borV (a - b)
def sumsS : PSpec := ⟨[gi, gi, gi, gi], fun (d, a, b, c, _) => (some (okSum d a b c), .tup [I1 (sumN d a b c), I1 (sumC d a b c)], [])⟩
theorem sums_ok : GoodF Try.prog 98 sumsS.spec := by
  have hT := tab_ok (fs := [(34, modS.spec)]) tree_ok
  have hP : SpecsOk Try.prog (tab tree [(34, modS.spec)]) := specs_cons mod_ok specs_nil
  refine sumsS.good (fn := Try.f98) hT hP Try.func98 (by kernel_rfl) rfl fun (d a b c : Int) hp => ?_
  obtain ⟨ha, hb, hc⟩ : okSum d a b c := hp _ rfl
  repeat' first
    | (refine Go.mk ?_; conv => whnf)
    | refine Need.go ?_ ?_
    | refine NilG.go (fun _ => ?_) (fun _ => ?_)
    | refine Br.dec (fun _ => ?_) (fun _ => ?_)
    | refine Br.go (fun _ => ?_) (fun _ => ?_)
    | refine draw_go hT hP mixed ?_
    | refine round_go hT hP ?_
  all_goals first
    | exact of_decide_eq_true rfl
    | skip
  all_goals (try refine .mk [] [] _ rfl rfl rfl rfl rfl rfl (tup2_int ?_ ?_))
  all_goals
    unfold bitC at hc
    dsimp only [gi, Den] at *
    clear hp hT hP
  · rename_i h; simp only [sumN, if_pos h, w64e, tmodE]; split <;> omega
  · rename_i h; simp only [sumC, if_pos h, w64e, tdivE]; split <;> omega
  · rename_i h1 h2; simp only [sumN, if_neg h1, if_pos h2, w64e]; omega
  · rename_i h1 h2
    have e : IntKind.i64.wrap (IntKind.i64.wrap (a - b) - IntKind.i64.wrap (1 - c)) = a - b - (1 - c) := by simp only [w64e]; omega
    simp only [sumC, if_neg h1, if_pos h2]
    rw [e, mapOne]
    unfold borV
    split <;> omega
  · rename_i h1 h2; simp only [sumN, if_neg h1, if_neg h2, w64e]; omega
  · rename_i h1 h2
    simp only [sumC, if_neg h1, if_neg h2]
    rw [mapOne]
    unfold borV
    split <;> omega

def tnN (d a c : Int) : Int := if d = 12 then a * 2 % 256 else if d = 14 then a * 2 % 256 + c else if d = 13 then a / 2 else a / 2 + 128 * c
def tnC (d a : Int) : Int := if d = 12 ∨ d = 14 then a / 128 else a % 2
def okTn (a c : Int) : Prop := (0 ≤ a ∧ a < 256) ∧ bitC c
def turnedS : PSpec := ⟨[gi, gi, gi], fun (d, a, c, _) => (some (okTn a c), .tup [I1 (tnN d a c), I1 (tnC d a)], [])⟩
theorem turned_ok : GoodF Try.prog 99 turnedS.spec := by
  have hT := tab_ok (fs := []) tree_ok
  have hP : SpecsOk Try.prog (tab tree []) := specs_nil
  refine turnedS.good (fn := Try.f99) hT hP Try.func99 (by kernel_rfl) rfl fun (d a c : Int) hp => ?_
  obtain ⟨ha, hc⟩ : okTn a c := hp _ rfl
  repeat' first
    | (refine Go.mk ?_; conv => whnf)
    | refine Need.go ?_ ?_
    | refine NilG.go (fun _ => ?_) (fun _ => ?_)
    | refine Br.dec (fun _ => ?_) (fun _ => ?_)
    | refine Br.go (fun _ => ?_) (fun _ => ?_)
    | refine draw_go hT hP mixed ?_
    | refine round_go hT hP ?_
  all_goals first
    | exact of_decide_eq_true rfl
    | skip
  all_goals (try refine .mk [] [] _ rfl rfl rfl rfl rfl rfl (tup2_int ?_ ?_))
  all_goals
    unfold bitC at hc
    dsimp only [gi, Den] at *
    clear hp hT hP
  all_goals
    simp only [tnN, tnC, tmodE, tdivE]
    simp_all [w64e]
  all_goals omega

end Go.Proofs.Ytanaaecfghmmaaa

/- The steps of a processor in the reference: the whole step. -/
namespace Go.Proofs.Ytanaaecfghmmaaa
open Go.Fw
set_option linter.unusedVariables false
set_option linter.unusedSimpArgs false
set_option maxRecDepth 100000

theorem tmod_fitB (r : List Int) (n : Nat) (k : Int) : ((fitR r).getD n 0).tmod k = (fitR r).getD n 0 % k := Int.tmod_eq_emod_of_nonneg (fitB_in r n).1
theorem i4B : Int.toNat 4 = 4 := rfl
theorem set4_self (r : List Int) : (fitR r).set 4 ((fitR r).getD 4 0) = fitR r := rfl
theorem sf3 {P A : Int} (h : 0 ≤ P ∧ P < 256) : rfV P (A % 256) (-1) = nzV P (A % 256) := rf_nz h (by omega)
theorem sf4 {P A B : Int} (h : 0 ≤ P ∧ P < 256) : rfV P ((A % 256 + B % 256 + P % 2) % 256) ((A % 256 + B % 256 + P % 2) / 256) = resV P ((A % 256 + B % 256 + P % 2) % 256) ((A % 256 + B % 256 + P % 2) / 256) := rf_res h (by omega) (by omega)
theorem borV_bit (x : Int) : (1 - borV x = 0 ∨ 1 - borV x = 1) := by unfold borV; split <;> omega
theorem sf5 {P A B x : Int} (h : 0 ≤ P ∧ P < 256) : rfV P ((A - B - (1 - P % 2)) % 256) (1 - borV x) = resV P ((A - B - (1 - P % 2)) % 256) (1 - borV x) := rf_res h (by omega) (borV_bit x)
theorem sf6 {P A B x : Int} (h : 0 ≤ P ∧ P < 256) : rfV P ((A - B) % 256) (1 - borV x) = flagV (nzV P ((A - B) % 256)) 1 (decide (borV x = 0)) := by
  rw [rf_res h (by omega) (borV_bit x), resV]
  congr 1
  unfold borV
  split <;> decide
theorem bytesNat (x : Int) (h : 0 ≤ x ∧ x < 256) : u64 x < 256 := by unfold u64; omega
theorem land_byte {A B : Int} : 0 ≤ land .i64 (A % 256) (B % 256) ∧ land .i64 (A % 256) (B % 256) < 256 := by
  have h := bytesNat (A % 256) (by omega)
  have := Nat.and_le_left (n := u64 (A % 256)) (m := u64 (B % 256))
  rw [land_nat _ _ (by omega)]
  omega
theorem lor_byte {A B : Int} : 0 ≤ lor .i64 (A % 256) (B % 256) ∧ lor .i64 (A % 256) (B % 256) < 256 := by
  have h1 := bytesNat (A % 256) (by omega)
  have h2 := bytesNat (B % 256) (by omega)
  have := Nat.or_lt_two_pow (n := 8) h1 h2
  rw [lor_nat _ _ (by omega)]
  omega
theorem lxor_byte {A B : Int} : 0 ≤ lxor .i64 (A % 256) (B % 256) ∧ lxor .i64 (A % 256) (B % 256) < 256 := by
  have h1 := bytesNat (A % 256) (by omega)
  have h2 := bytesNat (B % 256) (by omega)
  have h3 := Nat.xor_lt_two_pow (n := 8) h1 h2
  have e : lxor .i64 (A % 256) (B % 256) = ((u64 (A % 256) ^^^ u64 (B % 256) : Nat) : Int) := by
    show IntKind.i64.wrap (((BitVec.ofInt 64 (A % 256) ^^^ BitVec.ofInt 64 (B % 256)).toNat : Nat) : Int) = _
    rw [BitVec.toNat_xor, ofInt_toNat, ofInt_toNat]
    exact w64 (by omega) (by omega)
  rw [e]
  omega
theorem sfl {P A B : Int} (h : 0 ≤ P ∧ P < 256) : rfV P (land .i64 (A % 256) (B % 256)) (-1) = nzV P (land .i64 (A % 256) (B % 256)) := rf_nz h land_byte
theorem sfo {P A B : Int} (h : 0 ≤ P ∧ P < 256) : rfV P (lor .i64 (A % 256) (B % 256)) (-1) = nzV P (lor .i64 (A % 256) (B % 256)) := rf_nz h lor_byte
theorem sfx {P A B : Int} (h : 0 ≤ P ∧ P < 256) : rfV P (lxor .i64 (A % 256) (B % 256)) (-1) = nzV P (lxor .i64 (A % 256) (B % 256)) := rf_nz h lxor_byte
theorem sfs {P A : Int} (h : 0 ≤ P ∧ P < 256) : rfV P (A % 256 * 2 % 256) (A % 256 / 128) = resV P (A % 256 * 2 % 256) (A % 256 / 128) := rf_res h (by omega) (by omega)
theorem sfr {P A : Int} (h : 0 ≤ P ∧ P < 256) : rfV P (A % 256 * 2 % 256 + P % 2) (A % 256 / 128) = resV P (A % 256 * 2 % 256 + P % 2) (A % 256 / 128) := rf_res h (by omega) (by omega)
theorem sft {P A : Int} (h : 0 ≤ P ∧ P < 256) : rfV P (A % 256 / 2) (A % 256 % 2) = resV P (A % 256 / 2) (A % 256 % 2) := rf_res h (by omega) (by omega)
theorem sfu {P A : Int} (h : 0 ≤ P ∧ P < 256) : rfV P (A % 256 / 2 + 128 * (P % 2)) (A % 256 % 2) = resV P (A % 256 / 2 + 128 * (P % 2)) (A % 256 % 2) := rf_res h (by omega) (by omega)
theorem sft' {P A : Int} (h : 0 ≤ P ∧ P < 256) : rfV P (A % 256 / 2) (A % 2) = resV P (A % 256 / 2) (A % 2) := rf_res h (by omega) (by omega)
theorem sfu' {P A : Int} (h : 0 ≤ P ∧ P < 256) : rfV P (A % 256 / 2 + 128 * (P % 2)) (A % 2) = resV P (A % 256 / 2 + 128 * (P % 2)) (A % 2) := rf_res h (by omega) (by omega)
theorem gd30 {α} (a b c d : α) : [a, b, c].getD 0 d = a := rfl
theorem gd31 {α} (a b c d : α) : [a, b, c].getD 1 d = b := rfl
theorem gd32 {α} (a b c d : α) : [a, b, c].getD 2 d = c := rfl
theorem gd20 {α} (a b d : α) : [a, b].getD 0 d = a := rfl
theorem gd21 {α} (a b d : α) : [a, b].getD 1 d = b := rfl
theorem fit_fit (r : List Int) : fitR (fitR r) = fitR r := by simp [fitR]
theorem fit_set4 {r : List Int} {v : Int} (h : 0 ≤ v ∧ v < 256) : fitR ((fitR r).set 4 v) = (fitR r).set 4 v := by
  simp [fitR]; omega
theorem set_self (l : List Int) (n : Nat) : l.set n (l.getD n 0) = l := by
  apply List.ext_getElem?
  intro i
  rw [List.getElem?_set, List.getD_eq_getElem?_getD]
  by_cases h : n = i
  · subst h; by_cases h2 : n < l.length <;> simp [h2]
  · simp [h]
theorem set4_set (l : List Int) (n : Nat) (x : Int) (h : n ≠ 4) : (l.set 4 x).set n (l.getD n 0) = l.set 4 x := by
  rw [List.set_comm _ _ (Ne.symm h), set_self]
theorem getset_mod {F : List Int} {t i : Nat} {X Y m : Int} (h : X % m = Y % m) : (F.set t X).getD i 0 % m = (F.set t Y).getD i 0 % m := by
  rw [List.getD_eq_getElem?_getD, List.getD_eq_getElem?_getD, List.getElem?_set, List.getElem?_set]
  by_cases h1 : t = i
  · rw [if_pos h1, if_pos h1]
    by_cases h2 : t < F.length
    · rw [if_pos h2, if_pos h2]; exact h
    · rw [if_neg h2, if_neg h2]
  · rw [if_neg h1, if_neg h1]
theorem getset_ne {F : List Int} {t i : Nat} {X Y : Int} (h : t ≠ i) : (F.set t X).getD i 0 = (F.set t Y).getD i 0 := by
  rw [List.getD_eq_getElem?_getD, List.getD_eq_getElem?_getD, List.getElem?_set, List.getElem?_set, if_neg h, if_neg h]
theorem fit_setE {F : List Int} {t : Nat} {X Y : Int} (h : X % 65536 = Y % 65536) : fitR (F.set t X) = fitR (F.set t Y) := by
  have h2 : X % 256 = Y % 256 := by omega
  simp only [fitR, getset_mod (F := F) (t := t) h, getset_mod (F := F) (t := t) h2]
theorem fit_setB {F : List Int} {t : Int} {X Y : Int} (ht : okT t) (hw : wideB t = false) (h : X % 256 = Y % 256) : fitR (F.set t.toNat X) = fitR (F.set t.toNat Y) := by
  have h7 : t.toNat ≠ 7 ∧ t.toNat ≠ 8 := by
    unfold wideB at hw; unfold okT at ht
    have := of_decide_eq_false hw
    omega
  simp only [fitR, getset_mod (F := F) (t := t.toNat) h, getset_ne (F := F) (X := X) (Y := Y) h7.1, getset_ne (F := F) (X := X) (Y := Y) h7.2]
theorem landNot_byte {x y : Int} (hx : 0 ≤ x ∧ x < 256) : 0 ≤ landNot .i64 x y ∧ landNot .i64 x y < 256 := by
  have h := bytesNat x hx
  have h2 := Nat.and_le_left (n := u64 x) (m := u64 y)
  have h3 := Nat.xor_lt_two_pow (n := 8) h (show u64 x &&& u64 y < 2 ^ 8 by omega)
  rw [landNot_nat _ _ (by omega)]
  omega
theorem lor_b {x y : Int} (hx : 0 ≤ x ∧ x < 256) (hy : 0 ≤ y ∧ y < 256) : 0 ≤ lor .i64 x y ∧ lor .i64 x y < 256 := by
  have h1 := bytesNat x hx
  have h2 := bytesNat y hy
  have := Nat.or_lt_two_pow (n := 8) h1 h2
  rw [lor_nat _ _ (by omega)]
  omega
theorem flagV_byte {p f : Int} {on : Bool} (hp : 0 ≤ p ∧ p < 256) (hf : 0 ≤ f ∧ f < 256) : 0 ≤ flagV p f on ∧ flagV p f on < 256 := by
  cases on
  · exact landNot_byte hp
  · exact lor_b (landNot_byte hp) hf
theorem nzV_byte {p n : Int} (hp : 0 ≤ p ∧ p < 256) : 0 ≤ nzV p n ∧ nzV p n < 256 := flagV_byte (flagV_byte hp (by omega)) (by omega)
theorem u64_of {a : Int} (h : 0 ≤ a ∧ a < 256) : ((u64 a : Nat) : Int) = a := by unfold u64; omega
theorem flagV_on {p f : Int} (hp : 0 ≤ p ∧ p < 256) (hf : 0 ≤ f ∧ f < 256) : flagV p f true = lor .i64 p f := by
  have h1 := bytesNat p hp
  have h2 := bytesNat f hf
  have h3 := Nat.or_lt_two_pow (n := 8) h1 h2
  have hb := landNot_byte (y := f) hp
  have h4 := bytesNat _ hb
  have h5 := Nat.or_lt_two_pow (n := 8) h4 h2
  show lor .i64 (landNot .i64 p f) f = lor .i64 p f
  rw [lor_nat _ _ (by omega), lor_nat _ _ (by omega)]
  have e : u64 (landNot .i64 p f) = u64 p ^^^ (u64 p &&& u64 f) := by
    have := u64_of hb
    have e2 := landNot_nat p f (by omega)
    omega
  rw [e]
  congr 1
  apply Nat.eq_of_testBit_eq
  intro i
  simp only [Nat.testBit_or, Nat.testBit_xor, Nat.testBit_and]
  cases (u64 p).testBit i <;> cases (u64 f).testBit i <;> rfl
theorem land_pos {P n : Int} (h : 0 ≤ P ∧ P < 256) : decide (0 < land .i64 P (n % 256)) = (land .i64 P (n % 256) != 0) := by
  have hb := land_byte (A := P) (B := n)
  rw [show P % 256 = P by omega] at hb
  generalize land .i64 P (n % 256) = z at *
  by_cases h0 : z = 0
  · subst h0; rfl
  · have : 0 < z := by omega
    simp [this, h0]
set_option maxHeartbeats 8000000 in
theorem stepped_ok : GoodF Try.prog 77 doS.spec := by
  have hT := tab_ok (fs := [(70, fitS.spec), (96, lmtS.spec), (97, rflagsS.spec), (98, sumsS.spec), (99, turnedS.spec), (73, wideS.spec), (34, modS.spec)]) tree_ok
  have hP : SpecsOk Try.prog (tab tree [(70, fitS.spec), (96, lmtS.spec), (97, rflagsS.spec), (98, sumsS.spec), (99, turnedS.spec), (73, wideS.spec), (34, modS.spec)]) := specs_cons rFit_ok (specs_cons lmt_ok (specs_cons rflags_ok (specs_cons sums_ok (specs_cons turned_ok (specs_cons rWide_ok (specs_cons mod_ok specs_nil))))))
  refine doS.good (fn := Try.f77) hT hP Try.func77 (by kernel_rfl) rfl fun (s : Stp) (r : List Int) hp => ?_
  obtain ⟨d, to, fr, n⟩ := s
  have h9 : r.length = 9 := hp _ rfl
  have hl : (fitR r).length = 9 := rfl
  have ht : okT (limF to 0 8) := by rw [lim_clamp]; exact clamp_in to
  have hf : okT (limF fr 0 8) := by rw [lim_clamp]; exact clamp_in fr
  have ht1 := okT_nat ht
  have hf1 := okT_nat hf
  have ht2 := okT_lt ht
  have hf2 := okT_lt hf
  clear hp
  repeat' first
    | (refine Go.mk ?_; conv => whnf)
    | refine Need.go ?_ ?_
    | refine NilG.go (fun _ => ?_) (fun _ => ?_)
    | refine Br.dec (fun _ => ?_) (fun _ => ?_)
    | refine Br.go (fun _ => ?_) (fun _ => ?_)
    | refine draw_go hT hP mixed ?_
    | refine round_go hT hP ?_
  all_goals first
    | exact of_decide_eq_true rfl
    | exact h9
    | exact ht1
    | exact hf1
    | exact ht2
    | exact hf2
    | exact rfl
    | skip
  all_goals (try refine .mk [] [] _ rfl rfl rfl rfl rfl rfl (tupRB ?_ ?_))
  all_goals clear hT hP
  all_goals (dsimp only at *)
  all_goals (try (simp only [List.length_set, hl]; done))
  all_goals (try (rename_i h; simp [doE, h]; done))
  all_goals (try simp only [lim_clamp] at *)
  all_goals (try simp only [tmod_fitB, i4B, set4_self])
  all_goals
    have bA := fitB_in r (clampR to).toNat
    have bB := fitB_in r (clampR fr).toNat
    have bP := fit_4 r
    have ht2 := okT_lt ht
    clear ht1 hf1 hf2
    try subst_vars
  all_goals (try (rename_i h; exact absurd h (by decide)))
  all_goals (try exact ⟨by omega, by omega, by unfold bitC; omega⟩)
  all_goals (try exact ⟨by omega, by unfold bitC; omega⟩)
  all_goals (try exact (fit_set4 (nzV_byte bP)).symm)
  all_goals (try simp [-List.getD_eq_getElem?_getD, gd30, gd31, gd32, gd20, gd21, doR, stepX, binF, shF, incF, incN, logV, sumN, sumC, tnN, tnC, doE, aV, cV, sf3 bP, sf4 bP, sf5 bP, sf6 bP, sfl bP, sfo bP, sfx bP, sfs bP, sfr bP, sft bP, sfu bP, sft' bP, sfu' bP, set4_self, w_0, w_1, w_2, w_8])
  all_goals (try exact (fit_set4 (nzV_byte bP)).symm)
  all_goals (try (rw [fit_set4 (flagV_byte bP (by omega)), flagV_on bP (by omega)]; done))
  all_goals (try (rw [fit_set4 (flagV_byte bP (by omega))]; rfl))
  all_goals (try (simp only [w64e, tdivE, tmodE]; exact fit_setE (by omega)))
  · have h4 : clampR to = 4 := by assumption
    rw [h4]
    exact congrArg fitR (set_set4 _ _ _)
  · have h4 : ¬clampR to = 4 := by assumption
    rw [set4_set _ _ _ (by unfold okT at ht; omega)]
  · have hw : wideB (clampR to) = false := by simp_all
    rw [w64 (by omega) (by omega)]
    simp only [hw, Bool.false_eq_true, if_false, cond_false]
    exact fit_setB ht hw (by omega)
  · have hw : wideB (clampR to) = true := by simp_all
    rw [w64 (by omega) (by omega)]
    simp only [hw, if_true, cond_true]
    exact fit_setE (by omega)
  · have hw : wideB (clampR to) = false := by simp_all
    rw [show IntKind.i64.wrap (-1) = -1 by decide, w64 (by omega) (by omega), show (fitR r).getD (clampR to).toNat 0 + 1 - 2 = (fitR r).getD (clampR to).toNat 0 + -1 by omega]
    simp only [hw, Bool.false_eq_true, if_false, cond_false]
    exact fit_setB ht hw (by omega)
  · have hw : wideB (clampR to) = true := by simp_all
    rw [show IntKind.i64.wrap (-1) = -1 by decide, w64 (by omega) (by omega), show (fitR r).getD (clampR to).toNat 0 + 1 - 2 = (fitR r).getD (clampR to).toNat 0 + -1 by omega]
    simp only [hw, if_true, cond_true]
    exact fit_setE (by omega)
  · rw [show (fitR r).getD (clampR to).toNat 0 % 256 * 2 % 256 = (fitR r).getD (clampR to).toNat 0 * 2 % 256 by omega]
  · rw [show (fitR r).getD (clampR to).toNat 0 % 256 * 2 % 256 + (fitR r).getD 4 0 % 2 = ((fitR r).getD (clampR to).toNat 0 * 2 + (fitR r).getD 4 0 % 2) % 256 by omega]
  · rw [land_pos bP]
    generalize (land .i64 ((fitR r).getD 4 0) (n % 256) != 0) = b
    by_cases h : fr = 1 <;> cases b <;> simp [h]
  · rw [set_self, fit_fit]
    (repeat' split) <;> first | rfl | (exfalso; omega) | exact (fit_fit r).symm
  all_goals trace_state

end Go.Proofs.Ytanaaecfghmmaaa

/- The processor: what it asks of the bus, in the program and in the reference. -/
namespace Go.Proofs.Ytanaaecfghmmaaa
open Go.Fw
set_option linter.unusedVariables false
set_option linter.unusedSimpArgs false
set_option maxRecDepth 100000

abbrev Bsv := Int × Int × Int
def askF (c : Cpu) (k : Kor) (irq : Bool) : Kor × Bsv :=
  let k1 : Kor := if k.2.1 = -1 then startF c (fitR k.1, k.2) irq else (fitR k.1, k.2)
  if k1.2.1 = -1 then ((plR 0 k1.1, k1.2), (1, plA 0 k1.1, 0))
  else if canB c k1.2.1 k1.2.2.1 = false ∨ (doF c k1.2.1 k1.2.2.1).1 = 0 then (k1, (0, 0, 0))
  else
    let x := doF c k1.2.1 k1.2.2.1
    ((plR x.2.1 k1.1, k1.2), (x.1, plA x.2.1 k1.1, if x.1 = 2 ∧ 0 ≤ x.2.2.1 ∧ x.2.2.1 < 9 then k1.1.getD x.2.2.1.toNat 0 % 256 else 0))
theorem tupKB {r : List Int} {a b : Int} {n : Bool} {p q s : Int} {x : Kor × Bsv} (h : ((r, a, b, n), (p, q, s)) = x) : AV.tup [.agg [.run .i64 9 r, iv .i64 a, iv .i64 b, bv n], .agg [iv .i64 p, iv .i64 q, iv .i64 s]] =
    AV.tup [.agg [.run .i64 9 x.1.1, iv .i64 x.1.2.1, iv .i64 x.1.2.2.1, bv x.1.2.2.2], .agg [iv .i64 x.2.1, iv .i64 x.2.2.1, iv .i64 x.2.2.2]] := by subst h; rfl
def askP (c : Cpu) (k : Kor) : Prop := c.2.1.length ≤ 4611686018427387904 ∧ k.1.length = 9
theorem startF_fst (c : Cpu) (k : Kor) (i : Bool) : (startF c k i).1 = k.1 := by
  unfold startF; split
  · rfl
  · split <;> rfl
theorem startF_out (c : Cpu) (k : Kor) (i : Bool) : ∃ a b n, startF c k i = (k.1, a, b, n) := ⟨(startF c k i).2.1, (startF c k i).2.2.1, (startF c k i).2.2.2, by rw [← startF_fst c k i]⟩
def askS : PSpec := ⟨[gCpu, gK, gB], fun (c, k, i, _) => (some (askP c k), .tup [.agg [.run .i64 9 (askF c k i).1.1, iv .i64 (askF c k i).1.2.1, iv .i64 (askF c k i).1.2.2.1, bv (askF c k i).1.2.2.2], .agg [iv .i64 (askF c k i).2.1, iv .i64 (askF c k i).2.2.1, iv .i64 (askF c k i).2.2.2]], [])⟩
set_option maxHeartbeats 4000000 in
theorem ask_ok : GoodF Try.prog 78 askS.spec := by
  have hT := tab_ok (fs := [(100, fitS.spec), (101, startS.spec), (102, placeRS.spec), (103, doingS.spec), (79, lowM.spec)]) tree_ok
  have hP : SpecsOk Try.prog (tab tree [(100, fitS.spec), (101, startS.spec), (102, placeRS.spec), (103, doingS.spec), (79, lowM.spec)]) := specs_cons aFit_ok (specs_cons start_ok (specs_cons cPlace_ok (specs_cons doing_ok (specs_cons lowM_ok specs_nil))))
  refine askS.good (fn := Try.f78) hT hP Try.func78 (by kernel_rfl) rfl fun (c : Cpu) (k : Kor) (i : Bool) hp => ?_
  obtain ⟨cn, ci, cr, cq, cm⟩ := c
  obtain ⟨r, op, at_, n⟩ := k
  obtain ⟨hz, h9⟩ : ci.length ≤ 4611686018427387904 ∧ r.length = 9 := hp _ rfl
  clear hp
  repeat' first
    | (refine Go.mk ?_; conv => whnf)
    | refine Need.go ?_ ?_
    | refine NilG.go (fun _ => ?_) (fun _ => ?_)
    | refine Br.dec (fun _ => ?_) (fun _ => ?_)
    | refine Br.go (fun _ => ?_) (fun _ => ?_)
    | refine draw_go hT hP mixed ?_
    | refine round_go hT hP ?_
  all_goals first
    | exact of_decide_eq_true rfl
    | exact hz
    | exact h9
    | exact ⟨hz, _, rfl⟩
    | exact ⟨_, rfl⟩
    | skip
  all_goals (try refine .mk [] [] _ rfl rfl rfl rfl rfl rfl (tupKB ?_))
  all_goals (simp only [castL_eq, askF] at *)
  all_goals
    have hs := startF_fst (cn, ci, cr, cq, cm) (fitR r, op, at_, n) i
    generalize startF (cn, ci, cr, cq, cm) (fitR r, op, at_, n) i = z at *
    obtain ⟨r2, o2, a2, n2⟩ := z
    dsimp only at *
    subst hs
  all_goals (try exact ⟨_, rfl⟩)
  all_goals (try omega)
  all_goals clear hT hP
  all_goals (try simp_all)
  all_goals (try omega)

theorem fit_in (r : List Int) (n : Nat) : 0 ≤ (fitR r).getD n 0 ∧ (fitR r).getD n 0 < 65536 := by
  match n with
  | 0 | 1 | 2 | 3 | 4 | 5 | 6 | 7 | 8 => simp [fitR]; omega
  | n + 9 => simp [fitR]
theorem fit_3 (r : List Int) : (fitR r).getD 4 0 < 256 := by simp [fitR]; omega
theorem tmod_fit (r : List Int) (n : Nat) (k : Int) : ((fitR r).getD n 0).tmod k = (fitR r).getD n 0 % k := Int.tmod_eq_emod_of_nonneg (fit_in r n).1
theorem tdiv_fit (r : List Int) (n : Nat) (k : Int) : ((fitR r).getD n 0).tdiv k = (fitR r).getD n 0 / k := Int.tdiv_eq_ediv_of_nonneg (fit_in r n).1
theorem inc_fit (r : List Int) (n : Nat) : (IntKind.i64.wrap ((fitR r).getD n 0 + 1)).tmod 65536 = ((fitR r).getD n 0 + 1) % 65536 := by
  have := fit_in r n
  rw [w64 (by omega) (by omega), Int.tmod_eq_emod_of_nonneg (by omega)]
theorem bit4 (r : List Int) : (IntKind.i64.wrap ((fitR r).getD 4 0 / 4)).tmod 2 = (fitR r).getD 4 0 / 4 % 2 := by
  have := fit_in r 4
  rw [w64 (by omega) (by omega), Int.tmod_eq_emod_of_nonneg (by omega)]
theorem dfltC : (dflt CycT : Cyc) = cycD := rfl
theorem i0 : Int.toNat 0 = 0 := rfl
theorem i4 : Int.toNat 4 = 4 := rfl
theorem i7 : Int.toNat 7 = 7 := rfl
theorem c256 (c : Cpu) : cycF c 256 = c.2.2.2.1 := rfl
theorem c257 (c : Cpu) : cycF c 257 = c.2.2.2.2 := rfl
set_option maxHeartbeats 4000000 in
theorem asked_ok : GoodF Try.prog 33 askS.spec := by
  have hT := tab_ok (fs := [(70, fitS.spec), (71, cycS.spec), (74, addrS.spec), (73, wideS.spec), (72, narrowS.spec)]) tree_ok
  have hP : SpecsOk Try.prog (tab tree [(70, fitS.spec), (71, cycS.spec), (74, addrS.spec), (73, wideS.spec), (72, narrowS.spec)]) := specs_cons rFit_ok (specs_cons cycOf_ok (specs_cons rAddr_ok (specs_cons rWide_ok (specs_cons rNarrow_ok specs_nil))))
  refine askS.good (fn := Try.f33) hT hP Try.func33 (by kernel_rfl) rfl fun (c : Cpu) (k : Kor) (i : Bool) hp => ?_
  obtain ⟨cn, ci, cr, cq, cm⟩ := c
  obtain ⟨r, op, at_, n⟩ := k
  obtain ⟨hz, h9⟩ : ci.length ≤ 4611686018427387904 ∧ r.length = 9 := hp _ rfl
  clear hp
  repeat' first
    | (refine Go.mk ?_; conv => whnf)
    | refine Need.go ?_ ?_
    | refine NilG.go (fun _ => ?_) (fun _ => ?_)
    | refine Br.dec (fun _ => ?_) (fun _ => ?_)
    | refine Br.go (fun _ => ?_) (fun _ => ?_)
    | refine draw_go hT hP mixed ?_
    | refine round_go hT hP ?_
  all_goals first
    | exact of_decide_eq_true rfl
    | exact hz
    | exact h9
    | exact ⟨_, rfl⟩
    | skip
  all_goals (try refine .mk [] [] _ rfl rfl rfl rfl rfl rfl (tupKB ?_))
  all_goals (simp only [castL_eq] at *)
  all_goals (try omega)
  all_goals clear hT hP
  all_goals (try simp only [tdiv_fit, i4, i7, i0] at *)
  all_goals (try simp only [tmod_fit, bit4, inc_fit, dfltC] at *)
  all_goals (try simp_all [askF, startF, canB, doF, c256, c257, plA, plR])
  all_goals (try omega)
  · exfalso
    rename_i g1 g2 g3 g4
    have g4 : (0 : Int) ≥ (cm.length : Int) := g4
    omega
  · rename_i g1 g2
    have hc : canB (cn, ci, cr, cq, cm) op at_ = false := by unfold canB; rw [decide_eq_false (show ¬ 0 ≤ at_ by omega)]; simp
    simp only [askF, if_neg g1, hc, true_or, if_true]

end Go.Proofs.Ytanaaecfghmmaaa

/- What a processor does with a number from the bus. -/
namespace Go.Proofs.Ytanaaecfghmmaaa
open Go.Fw
set_option linter.unusedVariables false
set_option linter.unusedSimpArgs false
set_option linter.constructorNameAsVariable false
set_option maxRecDepth 100000

def opRd : List V1 → List Blk → Option (Ins × Int) := fun a b => match a, b with
  | [.agg [.imm (.int .i64 o), .imm (.string s), .imm (.int .i64 m), .ro (.pair (.int .i64) (.pair (.int .i64) (.pair (.int .i64) (.sl (.pair (.int .i64) (.pair (.int .i64) (.pair (.int .i64) (.int .i64)))))))) l], .c (.ptr 0 0)], [.var [.imm (.int .i64 op)]] => some ((o, s, m, l), op)
  | _, _ => none
theorem opRd_ok {a : List V1} {b : List Blk} {x : Ins × Int} (h : opRd a b = some x) : a = [.agg [iv .i64 x.1.1, .imm (.string x.1.2.1), iv .i64 x.1.2.2.1, .ro CycT x.1.2.2.2], .c (.ptr 0 0)] ∧ b = [.var [iv .i64 x.2]] := by
  unfold opRd at h
  split at h
  · injection h with h; subst h; exact ⟨rfl, rfl⟩
  · cases h
def opWS : WSpec := ⟨Ins × Int, fun x => [.agg [iv .i64 x.1.1, .imm (.string x.1.2.1), iv .i64 x.1.2.2.1, .ro CycT x.1.2.2.2], .c (.ptr 0 0)], fun x => [.var [iv .i64 x.2]], opRd,
  fun (x, op) => (none, .cell (bv (x.1 == op)), [some (.var [iv .i64 op])], [])⟩
theorem findOp_ok : GoodF Try.prog 64 opWS.spec := by
  have hT := tab_ok (fs := []) tree_ok
  have hP : SpecsOk Try.prog (tab tree []) := specs_nil
  refine opWS.good (fn := Try.f64) hT hP Try.func64 (by kernel_rfl) rfl (fun _ _ _ h => opRd_ok h) fun (((o, s, m, l), op) : Ins × Int) hq => ?_
  repeat' first
    | (refine Go.mk ?_; conv => whnf)
    | refine Need.go ?_ ?_
    | refine NilG.go (fun _ => ?_) (fun _ => ?_)
    | refine Br.dec (fun _ => ?_) (fun _ => ?_)
    | refine Br.go (fun _ => ?_) (fun _ => ?_)
    | refine draw_go hT hP mixed ?_
    | refine round_go hT hP ?_
  all_goals exact .mk [] [0] _ rfl rfl rfl rfl rfl rfl rfl
theorem ansOp_ok : GoodF Try.prog 76 opWS.spec := by
  have hT := tab_ok (fs := []) tree_ok
  have hP : SpecsOk Try.prog (tab tree []) := specs_nil
  refine opWS.good (fn := Try.f76) hT hP Try.func76 (by kernel_rfl) rfl (fun _ _ _ h => opRd_ok h) fun (((o, s, m, l), op) : Ins × Int) hq => ?_
  repeat' first
    | (refine Go.mk ?_; conv => whnf)
    | refine Need.go ?_ ?_
    | refine NilG.go (fun _ => ?_) (fun _ => ?_)
    | refine Br.dec (fun _ => ?_) (fun _ => ?_)
    | refine Br.go (fun _ => ?_) (fun _ => ?_)
    | refine draw_go hT hP mixed ?_
    | refine round_go hT hP ?_
  all_goals exact .mk [] [0] _ rfl rfl rfl rfl rfl rfl rfl

def idxG (p : Ins → Bool) : List Ins → Nat → Int
  | [], _ => -1
  | x :: r, k => if p x = true then (k : Int) else idxG p r (k + 1)
def opP (op : Int) (x : Ins) : Bool := x.1 == op
def idxI (l : List Ins) (op : Int) : Int := idxG (opP op) l 0
theorem insDrop {l : List Ins} {k : Nat} (h : k < l.length) : l.drop k = l.getD k (dflt InsT) :: l.drop (k + 1) := by
  rw [List.drop_eq_getElem_cons h, List.getD_eq_getElem?_getD, List.getElem?_eq_getElem h]; rfl
theorem idxG_in {p : Ins → Bool} : ∀ {l : List Ins} {k : Nat}, idxG p l k = -1 ∨ ((k : Int) ≤ idxG p l k ∧ idxG p l k < k + l.length)
  | [], k => .inl rfl
  | x :: r, k => by
    unfold idxG
    by_cases h : p x = true
    · rw [if_pos h]; right; simp only [List.length_cons]; omega
    · rw [if_neg h]
      rcases idxG_in (p := p) (l := r) (k := k + 1) with h1 | h1
      · exact .inl h1
      · right; simp only [List.length_cons]; omega
theorem idxI_in (l : List Ins) (op : Int) : idxI l op = -1 ∨ (0 ≤ idxI l op ∧ idxI l op < l.length) := by
  have := idxG_in (p := opP op) (l := l) (k := 0)
  unfold idxI
  simpa using this
structure IdxX where
  g : Nat
  l : List Ins
  op : Int
def idxRd : List V1 → List Blk → Option IdxX := fun a b => match a, b with
  | [.c (.ro (.pair (.int .i64) (.pair .str (.pair (.int .i64) (.sl (.pair (.int .i64) (.pair (.int .i64) (.pair (.int .i64) (.sl (.pair (.int .i64) (.pair (.int .i64) (.pair (.int .i64) (.int .i64)))))))))))) l), .c (.fn g [0])], [.var [.imm (.int .i64 op)]] => some ⟨g, l, op⟩
  | _, _ => none
theorem idxRd_ok {a : List V1} {b : List Blk} {x : IdxX} (h : idxRd a b = some x) : a = [.c (.ro InsT x.l), .c (.fn x.g [0])] ∧ b = [.var [iv .i64 x.op]] := by
  unfold idxRd at h
  split at h
  · injection h with h; subst h; exact ⟨rfl, rfl⟩
  · cases h
def idxWS : WSpec := ⟨IdxX, fun x => [.c (.ro InsT x.l), .c (.fn x.g [0])], fun x => [.var [iv .i64 x.op]], idxRd,
  fun ⟨g, l, op⟩ => (some ((g = 64 ∨ g = 76) ∧ l.length ≤ 4611686018427387904), I (idxI l op), [some (.var [iv .i64 op])], [])⟩
theorem idx_ok : GoodF Try.prog 63 idxWS.spec := by
  have hT := tab_ok (fs := [(64, opWS.spec), (76, opWS.spec)]) tree_ok
  have hP : SpecsOk Try.prog (tab tree [(64, opWS.spec), (76, opWS.spec)]) := specs_cons findOp_ok (specs_cons ansOp_ok specs_nil)
  refine idxWS.good (fn := Try.f63) hT hP Try.func63 (by kernel_rfl) rfl (fun _ _ _ h => idxRd_ok h) fun (⟨g, l, op⟩ : IdxX) hq => ?_
  obtain ⟨hg, hl⟩ : (g = 64 ∨ g = 76) ∧ l.length ≤ 4611686018427387904 := hq _ rfl
  clear hq
  rcases hg with rfl | rfl
  · repeat' first
      | (refine Go.mk ?_; conv => whnf)
      | refine Need.go ?_ ?_
      | refine NilG.go (fun _ => ?_) (fun _ => ?_)
      | refine Br.dec (fun _ => ?_) (fun _ => ?_)
      | refine Br.go (fun _ => ?_) (fun _ => ?_)
      | refine draw_go hT hP mixed ?_
      | refine round_go hT hP ?_
    refine up_go hT hP (A := Unit) l.length (fun i _ => St.mk [.cell (.ro InsT l), .cell (.fn 64 [0]), .dead, .dead, .dead, .dead, .dead, I l.length, I i, .dead, .dead, .dead, .dead, .dead, .dead, .dead, .dead, .dead, .dead] [some (.var [iv .i64 op])])
      (fun k _ => idxG (opP op) (l.drop k) k = idxI l op) () (Le.mk [] [0] rfl rfl rfl ?_) rfl fun k _ hk hi => ?_
    rotate_right
    repeat' first
      | (refine Go.mk ?_; conv => whnf)
      | refine Need.go ?_ ?_
      | refine NilG.go (fun _ => ?_) (fun _ => ?_)
      | refine Br.dec (fun _ => ?_) (fun _ => ?_)
      | refine Br.go (fun _ => ?_) (fun _ => ?_)
      | refine draw_go hT hP mixed ?_
      | refine round_go hT hP ?_
    all_goals (try (dsimp only [gi, Den] at *; omega))
    · rename_i g1 g2
      have hlt : k < l.length := by omega
      have hp : opP op (l.getD k (dflt InsT)) = true := beq_iff_eq.2 g2
      refine .mk [] [0] _ rfl rfl rfl rfl rfl rfl (imm_int ?_)
      rw [insDrop hlt, idxG, if_pos hp] at hi
      exact hi
    · rename_i g1 g2
      have hlt : k < l.length := by omega
      have hp : ¬ opP op (l.getD k (dflt InsT)) = true := fun h => g2 (beq_iff_eq.1 h)
      apply Exists.intro
      apply Exists.intro ()
      refine And.intro (And.intro ?lt119 (And.intro ?ei119 ?inv119)) (Le.mk [] [0] rfl rfl ?hh119 ?ht119)
      case hh119 => exact rfl
      case ht119 => repeat' first | exact trivial | exact ⟨rfl, rfl⟩ | refine And.intro ?_ ?_
      case lt119 => omega
      case ei119 => exact up_i (by omega)
      rw [insDrop hlt, idxG, if_neg hp] at hi
      exact hi
    · rename_i g1
      refine .mk [] [0] _ rfl rfl rfl rfl rfl rfl (imm_int ?_)
      rw [List.drop_of_length_le (by omega)] at hi
      exact hi
    · repeat' first | exact trivial | exact ⟨rfl, rfl⟩ | refine And.intro ?_ ?_
  · repeat' first
      | (refine Go.mk ?_; conv => whnf)
      | refine Need.go ?_ ?_
      | refine NilG.go (fun _ => ?_) (fun _ => ?_)
      | refine Br.dec (fun _ => ?_) (fun _ => ?_)
      | refine Br.go (fun _ => ?_) (fun _ => ?_)
      | refine draw_go hT hP mixed ?_
      | refine round_go hT hP ?_
    refine up_go hT hP (A := Unit) l.length (fun i _ => St.mk [.cell (.ro InsT l), .cell (.fn 76 [0]), .dead, .dead, .dead, .dead, .dead, I l.length, I i, .dead, .dead, .dead, .dead, .dead, .dead, .dead, .dead, .dead, .dead] [some (.var [iv .i64 op])])
      (fun k _ => idxG (opP op) (l.drop k) k = idxI l op) () (Le.mk [] [0] rfl rfl rfl ?_) rfl fun k _ hk hi => ?_
    rotate_right
    repeat' first
      | (refine Go.mk ?_; conv => whnf)
      | refine Need.go ?_ ?_
      | refine NilG.go (fun _ => ?_) (fun _ => ?_)
      | refine Br.dec (fun _ => ?_) (fun _ => ?_)
      | refine Br.go (fun _ => ?_) (fun _ => ?_)
      | refine draw_go hT hP mixed ?_
      | refine round_go hT hP ?_
    all_goals (try (dsimp only [gi, Den] at *; omega))
    · rename_i g1 g2
      have hlt : k < l.length := by omega
      have hp : opP op (l.getD k (dflt InsT)) = true := beq_iff_eq.2 g2
      refine .mk [] [0] _ rfl rfl rfl rfl rfl rfl (imm_int ?_)
      rw [insDrop hlt, idxG, if_pos hp] at hi
      exact hi
    · rename_i g1 g2
      have hlt : k < l.length := by omega
      have hp : ¬ opP op (l.getD k (dflt InsT)) = true := fun h => g2 (beq_iff_eq.1 h)
      apply Exists.intro
      apply Exists.intro ()
      refine And.intro (And.intro ?lt162 (And.intro ?ei162 ?inv162)) (Le.mk [] [0] rfl rfl ?hh162 ?ht162)
      case hh162 => exact rfl
      case ht162 => repeat' first | exact trivial | exact ⟨rfl, rfl⟩ | refine And.intro ?_ ?_
      case lt162 => omega
      case ei162 => exact up_i (by omega)
      rw [insDrop hlt, idxG, if_neg hp] at hi
      exact hi
    · rename_i g1
      refine .mk [] [0] _ rfl rfl rfl rfl rfl rfl (imm_int ?_)
      rw [List.drop_of_length_le (by omega)] at hi
      exact hi
    · repeat' first | exact trivial | exact ⟨rfl, rfl⟩ | refine And.intro ?_ ?_

-- copies

def gCyc : Sig := ⟨false, .sl CycT⟩
def gStp : Sig := ⟨false, .sl StepT⟩
def cloneCS : PSpec := ⟨[⟨false, .sl CycT⟩], fun (l, _) => (some (List.length l * 48 ≤ 140737488351232), .cell (.own 0), [.arr CycT l])⟩
theorem cloneC_ok : GoodF Try.prog 94 cloneCS.spec := by
  have hT := tab_ok (fs := []) tree_ok
  have hP : SpecsOk Try.prog (tab tree []) := specs_nil
  refine cloneCS.good (fn := Try.f94) hT hP Try.func94 (by kernel_rfl) rfl fun (l : List Cyc) hq => ?_
  have hl : l.length * 48 ≤ 140737488351232 := hq _ rfl
  clear hq
  repeat' first
    | (refine Go.mk ?_; conv => whnf)
    | refine Need.go ?_ ?_
    | refine NilG.go (fun _ => ?_) (fun _ => ?_)
    | refine Br.dec (fun _ => ?_) (fun _ => ?_)
    | refine Br.go (fun _ => ?_) (fun _ => ?_)
    | refine draw_go hT hP mixed ?_
    | refine round_go hT hP ?_
  all_goals first
    | exact of_decide_eq_true rfl
    | skip
  · rename_i h
    obtain rfl : l = [] := List.eq_nil_of_length_eq_zero h
    exact .le (Le.nil 2 CycT rfl) (.mk [] [0] _ rfl rfl rfl rfl rfl rfl rfl)
  · show (0 + l.length) * 48 ≤ 140737488355328
    omega
  · exact .mk [] [1] _ rfl rfl rfl rfl rfl rfl rfl
def cloneSS : PSpec := ⟨[⟨false, .sl StepT⟩], fun (l, _) => (some (List.length l * 32 ≤ 140737488351232), .cell (.own 0), [.arr StepT l])⟩
theorem cloneS_ok : GoodF Try.prog 95 cloneSS.spec := by
  have hT := tab_ok (fs := []) tree_ok
  have hP : SpecsOk Try.prog (tab tree []) := specs_nil
  refine cloneSS.good (fn := Try.f95) hT hP Try.func95 (by kernel_rfl) rfl fun (l : List Stp) hq => ?_
  have hl : l.length * 32 ≤ 140737488351232 := hq _ rfl
  clear hq
  repeat' first
    | (refine Go.mk ?_; conv => whnf)
    | refine Need.go ?_ ?_
    | refine NilG.go (fun _ => ?_) (fun _ => ?_)
    | refine Br.dec (fun _ => ?_) (fun _ => ?_)
    | refine Br.go (fun _ => ?_) (fun _ => ?_)
    | refine draw_go hT hP mixed ?_
    | refine round_go hT hP ?_
  all_goals first
    | exact of_decide_eq_true rfl
    | skip
  · rename_i h
    obtain rfl : l = [] := List.eq_nil_of_length_eq_zero h
    exact .le (Le.nil 2 StepT rfl) (.mk [] [0] _ rfl rfl rfl rfl rfl rfl rfl)
  · show (0 + l.length) * 32 ≤ 140737488355328
    omega
  · exact .mk [] [1] _ rfl rfl rfl rfl rfl rfl rfl

def okCyc (l : List Cyc) : Prop := l.length * 48 ≤ 140737488351232 ∧ ∀ x ∈ l, x.2.2.2.length * 32 ≤ 140737488351232
theorem cyc_mem {l : List Cyc} {k : Nat} (h : k < l.length) : l.getD k (dflt CycT) ∈ l := by
  rw [List.getD_eq_getElem?_getD, List.getElem?_eq_getElem h]
  exact List.getElem_mem h
theorem setD_self {α : Type} (l : List α) (n : Nat) (d : α) : l.set n (l.getD n d) = l := by
  apply List.ext_getElem?
  intro i
  rw [List.getElem?_set, List.getD_eq_getElem?_getD]
  by_cases h : n = i
  · subst h; by_cases h2 : n < l.length <;> simp [h2]
  · simp [h]
def copiesS : PSpec := ⟨[⟨false, .sl CycT⟩], fun (l, _) => (some (okCyc l), .cell (.own 0), [.arr CycT l])⟩
theorem copies_ok : GoodF Try.prog 69 copiesS.spec := by
  have hT := tab_ok (fs := [(94, cloneCS.spec), (95, cloneSS.spec)]) tree_ok
  have hP : SpecsOk Try.prog (tab tree [(94, cloneCS.spec), (95, cloneSS.spec)]) := specs_cons cloneC_ok (specs_cons cloneS_ok specs_nil)
  refine copiesS.good (fn := Try.f69) hT hP Try.func69 (by kernel_rfl) rfl fun (l : List Cyc) hq => ?_
  obtain ⟨h1, h2⟩ : okCyc l := hq _ rfl
  clear hq
  repeat' first
    | (refine Go.mk ?_; conv => whnf)
    | refine Need.go ?_ ?_
    | refine NilG.go (fun _ => ?_) (fun _ => ?_)
    | refine Br.dec (fun _ => ?_) (fun _ => ?_)
    | refine Br.go (fun _ => ?_) (fun _ => ?_)
    | refine draw_go hT hP mixed ?_
    | refine round_go hT hP ?_
  · exact h1
  refine up_go hT hP (A := Unit) l.length (fun i _ => St.mk [.dead, .dead, .dead, .cell (.own 0), .dead, .dead, .dead, .dead, I l.length, I i, .dead, .dead, .dead, .dead, .dead, .dead, .dead, .dead, .dead, .dead, .dead, .dead, .dead, .dead] [some (.arr CycT l)])
    (fun k _ => True) () (Le.mk [] [0] rfl rfl ?_ ?_) trivial fun k _ hk _ => ?_
  · exact rfl
  · repeat' first | exact trivial | exact ⟨rfl, rfl⟩ | refine And.intro ?_ ?_
  repeat' first
    | (refine Go.mk ?_; conv => whnf)
    | refine Need.go ?_ ?_
    | refine NilG.go (fun _ => ?_) (fun _ => ?_)
    | refine Br.dec (fun _ => ?_) (fun _ => ?_)
    | refine Br.go (fun _ => ?_) (fun _ => ?_)
    | refine draw_go hT hP mixed ?_
    | refine round_go hT hP ?_
  all_goals first
    | exact of_decide_eq_true rfl
    | skip
  all_goals first
    | exact .mk [] [0] _ rfl rfl rfl rfl rfl rfl rfl
    | (rename_i g1
       have g1 : (k : Int) < (l.length : Int) := g1
       first
         | (show 0 ≤ (k : Int) ∧ (k : Int) < (l.length : Int)
            omega)
         | (show k < l.length
            omega)
         | exact h2 _ (cyc_mem (k := k) (by omega)))
    | skip
  · rename_i g1
    have g1 : (k : Int) < (l.length : Int) := g1
    apply Exists.intro
    apply Exists.intro ()
    refine And.intro (And.intro ?lt (And.intro ?ei trivial)) (Le.mk [] [0] rfl rfl ?hh ?ht)
    case hh => exact congrArg (fun z => [some (Blk.arr CycT z)]) (setD_self l k (dflt CycT))
    case ht => repeat' first | exact trivial | exact ⟨rfl, rfl⟩ | refine And.intro ?_ ?_
    case lt => omega
    case ei => exact up_i (by omega)

abbrev gIns : Sig := ⟨true, InsT⟩
theorem agg_ins {o m : Int} {s : ByteArray} {l l' : List Cyc} (h : l = l') : AV.agg [iv .i64 o, .imm (.string s), iv .i64 m, .ro CycT l] = AV.agg [iv .i64 o, .imm (.string s), iv .i64 m, .ro CycT l'] := by rw [h]
def tcopyS : PSpec := ⟨[gIns], fun (x, _) => (some (okCyc x.2.2.2), .agg [iv .i64 x.1, .imm (.string x.2.1), iv .i64 x.2.2.1, .ro CycT x.2.2.2], [])⟩
theorem tcopy_ok : GoodF Try.prog 30 tcopyS.spec := by
  have hT := tab_ok (fs := [(69, copiesS.spec)]) tree_ok
  have hP : SpecsOk Try.prog (tab tree [(69, copiesS.spec)]) := specs_cons copies_ok specs_nil
  refine tcopyS.good (fn := Try.f30) hT hP Try.func30 (by kernel_rfl) rfl fun (x : Ins) hq => ?_
  obtain ⟨o, s, m, l⟩ := x
  have hl : okCyc l := hq _ rfl
  clear hq
  repeat' first
    | (refine Go.mk ?_; conv => whnf)
    | refine Need.go ?_ ?_
    | refine NilG.go (fun _ => ?_) (fun _ => ?_)
    | refine Br.dec (fun _ => ?_) (fun _ => ?_)
    | refine Br.go (fun _ => ?_) (fun _ => ?_)
    | refine draw_go hT hP mixed ?_
    | refine round_go hT hP ?_
  · exact hl
  · exact .mk [2] [] _ rfl rfl rfl rfl rfl rfl rfl
def cpuOk (c : Cpu) : Prop := c.2.1.length * 56 ≤ 140737488351232 ∧ ∀ x ∈ c.2.1, okCyc x.2.2.2
theorem ins_mem {l : List Ins} {k : Nat} (h : k < l.length) : l.getD k (dflt InsT) ∈ l := by
  rw [List.getD_eq_getElem?_getD, List.getElem?_eq_getElem h]
  exact List.getElem_mem h
def hasI (c : Cpu) (op : Int) : Bool := decide (0 ≤ idxI c.2.1 op)
def findI (c : Cpu) (op : Int) : Ins := if hasI c op = true then c.2.1.getD (idxI c.2.1 op).toNat (dflt InsT) else (0, ByteArray.empty, 0, [])
theorem tup_ins {x y : Ins} {b b' : Bool} (h : x = y) (h2 : b = b') : AV.tup [.agg [iv .i64 x.1, .imm (.string x.2.1), iv .i64 x.2.2.1, .ro CycT x.2.2.2], .c (bv b)] = AV.tup [.agg [iv .i64 y.1, .imm (.string y.2.1), iv .i64 y.2.2.1, .ro CycT y.2.2.2], .c (bv b')] := by rw [h, h2]
def tfindS : PSpec := ⟨[gCpu, gi], fun (c, op, _) => (some (cpuOk c), .tup [.agg [iv .i64 (findI c op).1, .imm (.string (findI c op).2.1), iv .i64 (findI c op).2.2.1, .ro CycT (findI c op).2.2.2], .c (bv (hasI c op))], [])⟩
theorem tfind_ok : GoodF Try.prog 27 tfindS.spec := by
  have hT := tab_ok (fs := [(30, tcopyS.spec), (63, idxWS.spec)]) tree_ok
  have hP : SpecsOk Try.prog (tab tree [(30, tcopyS.spec), (63, idxWS.spec)]) := specs_cons tcopy_ok (specs_cons idx_ok specs_nil)
  refine tfindS.good (fn := Try.f27) hT hP Try.func27 (by kernel_rfl) rfl fun (c : Cpu) (op : Int) hq => ?_
  obtain ⟨cn, ci, cr, cq, cm⟩ := c
  obtain ⟨h1, h2⟩ : cpuOk (cn, ci, cr, cq, cm) := hq _ rfl
  have h1 : ci.length * 56 ≤ 140737488351232 := h1
  have h2 : ∀ x ∈ ci, okCyc x.2.2.2 := h2
  clear hq
  repeat' first
    | (refine Go.mk ?_; conv => whnf)
    | refine Need.go ?_ ?_
    | refine NilG.go (fun _ => ?_) (fun _ => ?_)
    | refine Br.dec (fun _ => ?_) (fun _ => ?_)
    | refine Br.go (fun _ => ?_) (fun _ => ?_)
    | refine draw_go hT hP mixed ?_
    | refine round_go hT hP ?_
  all_goals first
    | exact of_decide_eq_true rfl
    | skip
  have hi := idxI_in ci op
  all_goals first
    | exact ⟨.inl rfl, by show ci.length ≤ _; omega⟩
    | (rename_i g1
       have g1 : ¬ idxI ci op < 0 := g1
       first
         | (show 0 ≤ idxI ci op ∧ idxI ci op < (ci.length : Int)
            have hi := idxI_in ci op
            omega)
         | (have hi := idxI_in ci op
            exact h2 _ (ins_mem (k := (idxI ci op).toNat) (by omega))))
    | skip
  · rename_i g1
    have g1 : idxI ci op < 0 := g1
    have hb : hasI (cn, ci, cr, cq, cm) op = false := decide_eq_false (by show ¬ 0 ≤ idxI ci op; omega)
    refine .le (Le.nilroH 2 [iv .i64 0, .imm (.string ByteArray.empty), iv .i64 0, .imm (.slice none 0 0)] [iv .i64 0, .imm (.string ByteArray.empty), iv .i64 0, .ro CycT []] rfl ⟨.inl rfl, .inl rfl, .inl rfl, .inr ⟨rfl, _, rfl⟩, trivial⟩)
      (.mk [] [] _ rfl rfl rfl rfl rfl rfl (tup_ins (x := (0, ByteArray.empty, 0, [])) ?_ ?_))
    · unfold findI; rw [hb]; rfl
    · exact hb.symm
  · rename_i g1
    have g1 : ¬ idxI ci op < 0 := g1
    have hb : hasI (cn, ci, cr, cq, cm) op = true := decide_eq_true (by show 0 ≤ idxI ci op; omega)
    refine .mk [] [] _ rfl rfl rfl rfl rfl rfl (tup_ins (x := ci.getD (idxI ci op).toNat (dflt InsT)) ?_ ?_)
    · unfold findI; rw [hb]; rfl
    · exact hb.symm


def runS : List Stp → List Int → List Int × Bool
  | [], r => (r, false)
  | s :: rest, r => if doE s r = true then (doR s r, true) else runS rest (doR s r)
theorem doR_len (s : Stp) (r : List Int) : (doR s r).length = 9 := by unfold doR; split <;> rfl
theorem stpDrop {l : List Stp} {k : Nat} (h : k < l.length) : l.drop k = l.getD k (dflt StepT) :: l.drop (k + 1) := by
  rw [List.drop_eq_getElem_cons h, List.getD_eq_getElem?_getD, List.getElem?_eq_getElem h]; rfl
def tellR (x : Cyc) (r : List Int) (D : Int) : List Int := if x.1 = 1 ∧ 0 ≤ x.2.2.1 ∧ x.2.2.1 < 9 then r.set x.2.2.1.toNat D else r
def tellF (c : Cpu) (k : Kor) (data : Int) : Kor :=
  if k.2.1 = -1 then (fitR k.1, if hasI c (data % 256) = true then (if 0 < (findI c (data % 256)).2.2.2.length then data % 256 else -1) else 259, 0, k.2.2.2)
  else if canB c k.2.1 k.2.2.1 = true then
    (if (runS (doF c k.2.1 k.2.2.1).2.2.2 (tellR (doF c k.2.1 k.2.2.1) (fitR k.1) (data % 256))).2 = true ∨ k.2.2.1 + 1 ≥ (cycF c k.2.1).length
     then ((runS (doF c k.2.1 k.2.2.1).2.2.2 (tellR (doF c k.2.1 k.2.2.1) (fitR k.1) (data % 256))).1, -1, 0, k.2.2.2)
     else ((runS (doF c k.2.1 k.2.2.1).2.2.2 (tellR (doF c k.2.1 k.2.2.1) (fitR k.1) (data % 256))).1, k.2.1, k.2.2.1 + 1, k.2.2.2))
  else if k.2.1 = 259 then (fitR k.1, 259, k.2.2.1, k.2.2.2) else (fitR k.1, -1, 0, k.2.2.2)
def tellP (c : Cpu) (k : Kor) : Prop := cpuOk c ∧ (okCyc c.2.2.1 ∧ okCyc c.2.2.2.1 ∧ okCyc c.2.2.2.2) ∧ k.1.length = 9
theorem okCyc_F {c : Cpu} (h : cpuOk c) (h2 : okCyc c.2.2.1 ∧ okCyc c.2.2.2.1 ∧ okCyc c.2.2.2.2) (op : Int) : okCyc (cycF c op) := by
  unfold cycF
  split
  · exact h2.2.1
  · split
    · exact h2.2.2
    · split
      · exact h2.1
      · split
        · rename_i x hx
          exact h.2 x (List.mem_of_find?_eq_some hx)
        · exact ⟨by simp, fun x hx => by cases hx⟩
theorem cycD_mem {l : List Cyc} {k : Nat} (h : k < l.length) : l.getD k cycD ∈ l := by
  rw [List.getD_eq_getElem?_getD, List.getElem?_eq_getElem h]
  exact List.getElem_mem h
theorem doF_len {c : Cpu} {op at_ : Int} (h : okCyc (cycF c op)) : (doF c op at_).2.2.2.length * 32 ≤ 140737488351232 := by
  unfold doF
  by_cases hb : canB c op at_ = true
  · rw [if_pos hb]
    have : 0 ≤ at_ ∧ at_ < (cycF c op).length := by
      unfold canB at hb
      simp at hb
      exact hb.2
    exact h.2 _ (cycD_mem (by omega))
  · rw [if_neg hb]; simp [cycD]
theorem agg_kor {x y : Kor} (h : x = y) : AV.agg [.run .i64 9 x.1, iv .i64 x.2.1, iv .i64 x.2.2.1, bv x.2.2.2] = AV.agg [.run .i64 9 y.1, iv .i64 y.2.1, iv .i64 y.2.2.1, bv y.2.2.2] := by rw [h]
def tellS : PSpec := ⟨[gCpu, gK, gi], fun (c, k, d, _) => (some (tellP c k), .agg [.run .i64 9 (tellF c k d).1, iv .i64 (tellF c k d).2.1, iv .i64 (tellF c k d).2.2.1, bv (tellF c k d).2.2.2], [])⟩
def endedS : PSpec := ⟨[gCpu, gK], fun (c, k, _) => (none, .agg [.run .i64 9 k.1, iv .i64 (if k.2.1 = 259 then 259 else -1), iv .i64 (if k.2.1 = 259 then k.2.2.1 else 0), bv k.2.2.2], [])⟩
theorem ended_ok : GoodF Try.prog 105 endedS.spec := by
  have hT := tab_ok (fs := []) tree_ok
  have hP : SpecsOk Try.prog (tab tree []) := specs_nil
  refine endedS.good (fn := Try.f105) hT hP Try.func105 (by kernel_rfl) rfl fun (c : Cpu) (k : Kor) hq => ?_
  obtain ⟨r, op, at_, nmi⟩ := k
  repeat' first
    | (refine Go.mk ?_; conv => whnf)
    | refine Need.go ?_ ?_
    | refine NilG.go (fun _ => ?_) (fun _ => ?_)
    | refine Br.dec (fun _ => ?_) (fun _ => ?_)
    | refine Br.go (fun _ => ?_) (fun _ => ?_)
    | refine draw_go hT hP mixed ?_
    | refine round_go hT hP ?_
  all_goals first
    | exact of_decide_eq_true rfl
    | skip
  all_goals (refine .mk [] [] _ rfl rfl rfl rfl rfl rfl (aggK (x := (r, if op = 259 then 259 else -1, if op = 259 then at_ else 0, nmi)) ?_))
  all_goals (simp_all)
theorem tellF_idle {c : Cpu} {r : List Int} {op at_ d : Int} {nmi : Bool} (h : op = -1) : tellF c (r, op, at_, nmi) d = (fitR r, if hasI c (d % 256) = true then (if 0 < (findI c (d % 256)).2.2.2.length then d % 256 else -1) else 259, 0, nmi) := by
  unfold tellF; rw [if_pos h]
theorem tellF_ended {c : Cpu} {r : List Int} {op at_ d : Int} {nmi : Bool} (h : ¬ op = -1) (hb : canB c op at_ = false) : tellF c (r, op, at_, nmi) d = (fitR r, if op = 259 then 259 else -1, if op = 259 then at_ else 0, nmi) := by
  unfold tellF
  rw [if_neg h, if_neg (by show ¬ canB c op at_ = true; rw [hb]; decide)]
  by_cases h9 : op = 259
  · rw [if_pos h9, if_pos h9, if_pos h9]
  · rw [if_neg h9, if_neg h9, if_neg h9]
theorem tellF_run {c : Cpu} {r z : List Int} {op at_ d : Int} {nmi e : Bool} {x : Cyc} (h : ¬ op = -1) (hb : canB c op at_ = true) (hx : doF c op at_ = x) (hz : runS x.2.2.2 (tellR x (fitR r) (d % 256)) = (z, e)) :
    tellF c (r, op, at_, nmi) d = if e = true ∨ at_ + 1 ≥ (cycF c op).length then (z, -1, 0, nmi) else (z, op, at_ + 1, nmi) := by
  unfold tellF
  rw [if_neg h, if_pos (show canB c op at_ = true from hb)]
  show (if (runS (doF c op at_).2.2.2 (tellR (doF c op at_) (fitR r) (d % 256))).2 = true ∨ _ then _ else _) = _
  rw [hx, hz]
theorem canB_in {c : Cpu} {op at_ : Int} (h : canB c op at_ = true) : 0 ≤ at_ ∧ at_ < (cycF c op).length := by
  unfold canB at h
  simp at h
  exact h.2
set_option maxHeartbeats 8000000 in
theorem tell_ok : GoodF Try.prog 80 tellS.spec := by
  have hT := tab_ok (fs := [(100, fitS.spec), (79, lowM.spec), (27, tfindS.spec), (103, doingS.spec), (105, endedS.spec), (106, doS.spec), (107, cycS.spec)]) tree_ok
  have hP : SpecsOk Try.prog (tab tree [(100, fitS.spec), (79, lowM.spec), (27, tfindS.spec), (103, doingS.spec), (105, endedS.spec), (106, doS.spec), (107, cycS.spec)]) := specs_cons aFit_ok (specs_cons lowM_ok (specs_cons tfind_ok (specs_cons doing_ok (specs_cons ended_ok (specs_cons do_ok (specs_cons cyc_ok specs_nil))))))
  refine tellS.good (fn := Try.f80) hT hP Try.func80 (by kernel_rfl) rfl fun (c : Cpu) (k : Kor) (data : Int) hq => ?_
  obtain ⟨cn, ci, cr, cq, cm⟩ := c
  obtain ⟨r, op, at_, nmi⟩ := k
  obtain ⟨h1, h2, h3⟩ : tellP (cn, ci, cr, cq, cm) (r, op, at_, nmi) := hq _ rfl
  clear hq
  have hC := okCyc_F h1 h2 op
  have hS := doF_len (at_ := at_) hC
  have h1' : ci.length * 56 ≤ 140737488351232 := h1.1
  repeat' first
    | (refine Go.mk ?_; conv => whnf)
    | refine Need.go ?_ ?_
    | refine NilG.go (fun _ => ?_) (fun _ => ?_)
    | refine Br.dec (fun _ => ?_) (fun _ => ?_)
    | refine Br.go (fun _ => ?_) (fun _ => ?_)
    | refine draw_go hT hP mixed ?_
    | refine round_go hT hP ?_
  all_goals first
    | exact of_decide_eq_true rfl
    | exact h3
    | exact h1
    | skip
  all_goals (try simp only [castL_eq] at *)
  all_goals (try dsimp only at *)
  all_goals (have h8 : data % 2 ^ (Int.toNat 8) = data % 256 := rfl)
  all_goals (try simp only [h8] at *)
  all_goals clear h8
  all_goals first
    | (show ci.length ≤ 4611686018427387904
       omega)
    | (show 0 ≤ (doF (cn, ci, cr, cq, cm) op at_).2.2.1 ∧ (doF (cn, ci, cr, cq, cm) op at_).2.2.1 < ((9 : Nat) : Int)
       omega)
    | (show (doF (cn, ci, cr, cq, cm) op at_).2.2.1.toNat < 9
       omega)
    | (refine .mk [] [] _ rfl rfl rfl rfl rfl rfl (aggK ?_)
       rw [tellF_idle (by assumption)]
       simp_all
       done)
    | (refine .mk [] [] _ rfl rfl rfl rfl rfl rfl (aggK ?_)
       rw [tellF_ended (by assumption) (by simp_all)]
       done)
    | skip
  all_goals
    have hb : canB (cn, ci, cr, cq, cm) op at_ = true := by simp_all
    have hin := canB_in hb
    have hCl : (cycF (cn, ci, cr, cq, cm) op).length * 48 ≤ 140737488351232 := hC.1
    have ewa : IntKind.i64.wrap (at_ + 1) = at_ + 1 := w64 (by omega) (by omega)
  all_goals first
    | (have hR : tellR (doF (cn, ci, cr, cq, cm) op at_) (fitR r) (data % 256) = ((fitR r).set (doF (cn, ci, cr, cq, cm) op at_).2.2.1.toNat (data % 256)) := if_pos ⟨by assumption, by omega, by omega⟩
       refine up_go hT hP (doF (cn, ci, cr, cq, cm) op at_).2.2.2.length (fun i (z : List Int) => St.mk [.dead, .dead, .dead, .cell (.ptr 0 0), .cell (.ptr 1 0), .dead, .cell (.ptr 2 0), .dead, .dead, .dead, .dead, .dead, .dead, .dead, .dead, .dead, .dead, .dead, .dead, .dead, .dead, .dead, .dead, .dead, .dead, .dead, .dead, .dead, .dead, .dead, .dead, .dead, .dead, .dead, .dead, .dead, .dead, .dead, .dead, .dead, .dead, .dead, .dead, .dead, .dead, .dead, .dead, .dead, .dead, .dead, .dead, .dead, .dead, .dead, .dead, .dead, .dead, .dead, .dead, .dead, .dead, .dead, .dead, .dead, .dead, .dead, .dead, .dead, .dead, .dead, .dead, .dead, .dead, .dead, .dead, .dead, .dead, .cell (.ro StepT (doF (cn, ci, cr, cq, cm) op at_).2.2.2), I ((doF (cn, ci, cr, cq, cm) op at_).2.2.2.length : Int), I i, .dead, .dead, .dead, .dead, .dead, .dead, .dead, .dead, .dead, .dead, .dead, .dead, .dead, .dead, .dead, .dead, .dead, .dead, .dead, .dead, .dead, .dead, .dead, .dead, .dead, .dead, .dead, .dead] [some (.var [.imm (.string cn), .ro InsT ci, .ro CycT cr, .ro CycT cq, .ro CycT cm]), some (.var [.run .i64 9 z, iv .i64 op, iv .i64 (IntKind.i64.wrap (at_ + 1)), bv nmi]), some (.var [.run .i64 9 [0, 0, 0, 0, 0, 0, 0, 0, 0], iv .i64 0, iv .i64 0, bv false])]) (fun j z => runS ((doF (cn, ci, cr, cq, cm) op at_).2.2.2.drop j) z = runS (doF (cn, ci, cr, cq, cm) op at_).2.2.2 (tellR (doF (cn, ci, cr, cq, cm) op at_) (fitR r) (data % 256)) ∧ z.length = 9) ((fitR r).set (doF (cn, ci, cr, cq, cm) op at_).2.2.1.toNat (data % 256)) (Le.mk [] [0, 1, 2] rfl rfl (by exact rfl) (by repeat' first | exact trivial | exact ⟨rfl, rfl⟩ | refine And.intro ?_ ?_)) ⟨by rw [hR]; rfl, by rw [List.length_set]; rfl⟩ fun j z hj hi => ?_)
    | (have hR : tellR (doF (cn, ci, cr, cq, cm) op at_) (fitR r) (data % 256) = fitR r := if_neg (fun ⟨a, b, c⟩ => by omega)
       refine up_go hT hP (doF (cn, ci, cr, cq, cm) op at_).2.2.2.length (fun i (z : List Int) => St.mk [.dead, .dead, .dead, .cell (.ptr 0 0), .cell (.ptr 1 0), .dead, .cell (.ptr 2 0), .dead, .dead, .dead, .dead, .dead, .dead, .dead, .dead, .dead, .dead, .dead, .dead, .dead, .dead, .dead, .dead, .dead, .dead, .dead, .dead, .dead, .dead, .dead, .dead, .dead, .dead, .dead, .dead, .dead, .dead, .dead, .dead, .dead, .dead, .dead, .dead, .dead, .dead, .dead, .dead, .dead, .dead, .dead, .dead, .dead, .dead, .dead, .dead, .dead, .dead, .dead, .dead, .dead, .dead, .dead, .dead, .dead, .dead, .dead, .dead, .dead, .dead, .dead, .dead, .dead, .dead, .dead, .dead, .dead, .dead, .cell (.ro StepT (doF (cn, ci, cr, cq, cm) op at_).2.2.2), I ((doF (cn, ci, cr, cq, cm) op at_).2.2.2.length : Int), I i, .dead, .dead, .dead, .dead, .dead, .dead, .dead, .dead, .dead, .dead, .dead, .dead, .dead, .dead, .dead, .dead, .dead, .dead, .dead, .dead, .dead, .dead, .dead, .dead, .dead, .dead, .dead, .dead] [some (.var [.imm (.string cn), .ro InsT ci, .ro CycT cr, .ro CycT cq, .ro CycT cm]), some (.var [.run .i64 9 z, iv .i64 op, iv .i64 (IntKind.i64.wrap (at_ + 1)), bv nmi]), some (.var [.run .i64 9 [0, 0, 0, 0, 0, 0, 0, 0, 0], iv .i64 0, iv .i64 0, bv false])]) (fun j z => runS ((doF (cn, ci, cr, cq, cm) op at_).2.2.2.drop j) z = runS (doF (cn, ci, cr, cq, cm) op at_).2.2.2 (tellR (doF (cn, ci, cr, cq, cm) op at_) (fitR r) (data % 256)) ∧ z.length = 9) (fitR r) (Le.mk [] [0, 1, 2] rfl rfl (by exact rfl) (by repeat' first | exact trivial | exact ⟨rfl, rfl⟩ | refine And.intro ?_ ?_)) ⟨by rw [hR]; rfl, rfl⟩ fun j z hj hi => ?_)
    | skip
  all_goals
    obtain ⟨hi, hz⟩ := hi
    repeat' first
      | (refine Go.mk ?_; conv => whnf)
      | refine Need.go ?_ ?_
      | refine NilG.go (fun _ => ?_) (fun _ => ?_)
      | refine Br.dec (fun _ => ?_) (fun _ => ?_)
      | refine Br.go (fun _ => ?_) (fun _ => ?_)
      | refine draw_go hT hP mixed ?_
      | refine round_go hT hP ?_
  all_goals (try simp only [castL_eq] at *)
  all_goals (try dsimp only at *)
  all_goals first
    | exact of_decide_eq_true rfl
    | exact hz
    | (show ci.length ≤ 4611686018427387904
       omega)
    | (show 0 ≤ (j : Int) ∧ (j : Int) < ((doF (cn, ci, cr, cq, cm) op at_).2.2.2.length : Int)
       omega)
    | (show j < (doF (cn, ci, cr, cq, cm) op at_).2.2.2.length
       omega)
    | skip
  all_goals clear hT hP
  all_goals first
    | (rename_i g1 h
       have g1 : (j : Int) < ((doF (cn, ci, cr, cq, cm) op at_).2.2.2.length : Int) := g1
       have he : doE ((doF (cn, ci, cr, cq, cm) op at_).2.2.2.getD j (dflt StepT)) z = true := h
       have hrun : runS (doF (cn, ci, cr, cq, cm) op at_).2.2.2 (tellR (doF (cn, ci, cr, cq, cm) op at_) (fitR r) (data % 256)) = (doR ((doF (cn, ci, cr, cq, cm) op at_).2.2.2.getD j (dflt StepT)) z, true) := by
         rw [← hi, stpDrop (by omega), runS, if_pos he]
       refine .mk [] [] _ rfl rfl rfl rfl rfl rfl (aggK ?_)
       rw [tellF_run (by assumption) hb rfl hrun, if_pos (.inl rfl)]; rfl)
    | (rename_i g1 h
       have g1 : (j : Int) < ((doF (cn, ci, cr, cq, cm) op at_).2.2.2.length : Int) := g1
       have he : ¬ doE ((doF (cn, ci, cr, cq, cm) op at_).2.2.2.getD j (dflt StepT)) z = true := fun e => by
         have h : doE ((doF (cn, ci, cr, cq, cm) op at_).2.2.2.getD j (dflt StepT)) z = false := h
         rw [h] at e; cases e
       apply Exists.intro
       apply Exists.intro (doR ((doF (cn, ci, cr, cq, cm) op at_).2.2.2.getD j (dflt StepT)) z)
       refine And.intro (And.intro ?lt (And.intro ?ei ?inv)) (Le.mk [] [0, 1, 2] rfl rfl ?hh ?ht)
       case hh => exact rfl
       case ht => repeat' first | exact trivial | exact ⟨rfl, rfl⟩ | refine And.intro ?_ ?_
       case lt => omega
       case ei => exact up_i (by omega)
       case inv =>
         rw [stpDrop (by omega), runS, if_neg he] at hi
         exact ⟨hi, doR_len _ _⟩)
    | (rename_i g1 h
       have g1 : ¬ (j : Int) < ((doF (cn, ci, cr, cq, cm) op at_).2.2.2.length : Int) := g1
       have h : IntKind.i64.wrap (at_ + 1) ≥ ((cycF (cn, ci, cr, cq, cm) op).length : Int) := h
       rw [ewa] at h
       have hrun : runS (doF (cn, ci, cr, cq, cm) op at_).2.2.2 (tellR (doF (cn, ci, cr, cq, cm) op at_) (fitR r) (data % 256)) = (z, false) := by
         rw [← hi, List.drop_of_length_le (by omega)]; rfl
       refine .mk [] [] _ rfl rfl rfl rfl rfl rfl (aggK ?_)
       rw [tellF_run (by assumption) hb rfl hrun, if_pos (.inr h)])
    | (rename_i g1 h
       have g1 : ¬ (j : Int) < ((doF (cn, ci, cr, cq, cm) op at_).2.2.2.length : Int) := g1
       have h : ¬ IntKind.i64.wrap (at_ + 1) ≥ ((cycF (cn, ci, cr, cq, cm) op).length : Int) := h
       have hrun : runS (doF (cn, ci, cr, cq, cm) op at_).2.2.2 (tellR (doF (cn, ci, cr, cq, cm) op at_) (fitR r) (data % 256)) = (z, false) := by
         rw [← hi, List.drop_of_length_le (by omega)]; rfl
       refine .mk [] [] _ rfl rfl rfl rfl rfl rfl (aggK ?_)
       rw [tellF_run (by assumption) hb rfl hrun, ewa, if_neg (fun e => e.elim (fun e => by cases e) (fun e => h (by rw [ewa]; exact e)))])
    | skip
  all_goals trace_state

end Go.Proofs.Ytanaaecfghmmaaa

/- bakelaw1.CoreAsks answers true, whatever it is given. -/
namespace Go.Proofs.Ytanaaecfghmmaaa
open Go.Fw
set_option linter.unusedVariables false
set_option linter.unusedSimpArgs false
set_option maxRecDepth 100000

-- the law

theorem denEq_self : ∀ {u : Ty} {x : Den u}, u.flat = true → denEq u x x = true
  | .int _, x, _ => by simp [denEq]
  | .ints _ _, x, _ => by simp [denEq]
  | .bool, x, _ => by simp [denEq]
  | .str, x, _ => by simp [denEq, strEq]
  | .sl _, _, h => by cases h
  | .pair a b, x, h => by
    simp only [Ty.flat, Bool.and_eq_true] at h
    simp only [denEq, denEq_self h.1, denEq_self h.2, Bool.and_self]
def kNewS : PSpec := ⟨[], fun _ => (none, .agg [.run .i64 9 [0, 0, 0, 0, 4, 0, 0, 0, 0], iv .i64 258, iv .i64 0, bv false], [])⟩
def kNmiS : PSpec := ⟨[gK], fun (k, _) => (none, .agg [.run .i64 9 k.1, iv .i64 k.2.1, iv .i64 k.2.2.1, bv true], [])⟩
def coresS : PSpec := ⟨[], fun _ => (none, .cell (bv true), [])⟩
def caS : PSpec := ⟨[gCpu, gK, gB], fun (c, k, i, _) => (some (askP c k), .cell (bv true), [])⟩
end Go.Proofs.Ytanaaecfghmmaaa

/- bakelaw1.CoreTells answers true, whatever it is given; the walk of the document. -/
namespace Go.Proofs.Ytanaaecfghmmaaa
open Go.Fw
set_option linter.unusedVariables false
set_option linter.unusedSimpArgs false
set_option linter.constructorNameAsVariable false
set_option maxRecDepth 100000

def idleRd : List V1 → List Blk → Option Kor := fun a b => match a, b with
  | [.c (.ptr 0 0)], [.var [.run .i64 9 r, .imm (.int .i64 op), .imm (.int .i64 at_), .imm (.bool nmi)]] => some (r, op, at_, nmi)
  | _, _ => none
theorem idleRd_ok {a : List V1} {b : List Blk} {x : Kor} (h : idleRd a b = some x) : a = [.c (.ptr 0 0)] ∧ b = [.var [.run .i64 9 x.1, iv .i64 x.2.1, iv .i64 x.2.2.1, bv x.2.2.2]] := by
  unfold idleRd at h
  split at h
  · injection h with h; subst h; exact ⟨rfl, rfl⟩
  · cases h
def idleWS : WSpec := ⟨Kor, fun _ => [.c (.ptr 0 0)], fun x => [.var [.run .i64 9 x.1, iv .i64 x.2.1, iv .i64 x.2.2.1, bv x.2.2.2]], idleRd,
  fun (r, op, at_, nmi) => (none, .agg [.run .i64 9 r, iv .i64 (-1), iv .i64 0, bv nmi], [some (.var [.run .i64 9 r, iv .i64 (-1), iv .i64 0, bv nmi])], [])⟩
theorem idle_ok : GoodF Try.prog 75 idleWS.spec := by
  have hT := tab_ok (fs := []) tree_ok
  have hP : SpecsOk Try.prog (tab tree []) := specs_nil
  refine idleWS.good (fn := Try.f75) hT hP Try.func75 (by kernel_rfl) rfl (fun _ _ _ h => idleRd_ok h) fun ((r, op, at_, nmi) : Kor) hq => ?_
  repeat' first
    | (refine Go.mk ?_; conv => whnf)
    | refine Need.go ?_ ?_
    | refine NilG.go (fun _ => ?_) (fun _ => ?_)
    | refine Br.dec (fun _ => ?_) (fun _ => ?_)
    | refine Br.go (fun _ => ?_) (fun _ => ?_)
    | refine draw_go hT hP mixed ?_
    | refine round_go hT hP ?_
  all_goals exact .mk [] [0] _ rfl rfl rfl rfl rfl rfl rfl
theorem hasI_eq {c : Cpu} {op : Int} : hasI c op = decide (¬ idxI c.2.1 op < 0) := by
  unfold hasI
  by_cases h : 0 ≤ idxI c.2.1 op
  · rw [decide_eq_true h, decide_eq_true (by omega)]
  · rw [decide_eq_false h, decide_eq_false (by omega)]
theorem canB_t {c : Cpu} {op at_ : Int} (h : ¬ op = -1) (h0 : 0 ≤ at_) (h1 : at_ < (cycF c op).length) : canB c op at_ = true := by
  unfold canB; rw [decide_eq_false h, decide_eq_true h0, decide_eq_true h1]; rfl
theorem canB_f {c : Cpu} {op at_ : Int} (h : ¬ (0 ≤ at_ ∧ at_ < (cycF c op).length)) : canB c op at_ = false := by
  unfold canB
  by_cases h0 : 0 ≤ at_
  · rw [decide_eq_true h0, decide_eq_false (fun h1 => h ⟨h0, h1⟩)]; simp
  · rw [decide_eq_false h0]; simp
set_option maxHeartbeats 8000000 in
theorem answered_ok : GoodF Try.prog 37 tellS.spec := by
  have hT := tab_ok (fs := [(70, fitS.spec), (34, modS.spec), (75, idleWS.spec), (76, opWS.spec), (63, idxWS.spec), (72, narrowS.spec), (73, wideS.spec), (77, doS.spec), (71, cycS.spec)]) tree_ok
  have hP : SpecsOk Try.prog (tab tree [(70, fitS.spec), (34, modS.spec), (75, idleWS.spec), (76, opWS.spec), (63, idxWS.spec), (72, narrowS.spec), (73, wideS.spec), (77, doS.spec), (71, cycS.spec)]) := specs_cons rFit_ok (specs_cons mod_ok (specs_cons idle_ok (specs_cons ansOp_ok (specs_cons idx_ok (specs_cons rNarrow_ok (specs_cons rWide_ok (specs_cons stepped_ok (specs_cons cycOf_ok specs_nil))))))))
  refine tellS.good (fn := Try.f37) hT hP Try.func37 (by kernel_rfl) rfl fun (c : Cpu) (k : Kor) (data : Int) hq => ?_
  obtain ⟨cn, ci, cr, cq, cm⟩ := c
  obtain ⟨r, op, at_, nmi⟩ := k
  obtain ⟨h1, h2, h3⟩ : tellP (cn, ci, cr, cq, cm) (r, op, at_, nmi) := hq _ rfl
  clear hq
  have hC := okCyc_F h1 h2 op
  have hS := doF_len (at_ := at_) hC
  have h1' : ci.length * 56 ≤ 140737488351232 := h1.1
  repeat' first
    | (refine Go.mk ?_; conv => whnf)
    | refine Need.go ?_ ?_
    | refine NilG.go (fun _ => ?_) (fun _ => ?_)
    | refine Br.dec (fun _ => ?_) (fun _ => ?_)
    | refine Br.go (fun _ => ?_) (fun _ => ?_)
    | refine draw_go hT hP mixed ?_
    | refine round_go hT hP ?_
  all_goals first
    | exact of_decide_eq_true rfl
    | exact h3
    | exact h1
    | skip
  all_goals (try simp only [castL_eq] at *)
  all_goals (try dsimp only at *)
  all_goals first
    | exact ⟨.inr trivial, by show ci.length ≤ _; omega⟩
    | exact ⟨.inr rfl, by show ci.length ≤ _; omega⟩
    | (show ci.length ≤ 4611686018427387904
       omega)
    | (have hi := idxI_in ci (data % 256)
       show 0 ≤ idxI ci (data % 256) ∧ idxI ci (data % 256) < (ci.length : Int)
       omega)
    | (show 0 ≤ at_ ∧ at_ < ((cycF (cn, ci, cr, cq, cm) op).length : Int)
       omega)
    | (rename_i hreg
       have hreg : 0 ≤ ((cycF (cn, ci, cr, cq, cm) op).getD at_.toNat cycD).2.2.1 ∧ ((cycF (cn, ci, cr, cq, cm) op).getD at_.toNat cycD).2.2.1 ≤ 6 := hreg
       have h9 : ((cycF (cn, ci, cr, cq, cm) op).getD at_.toNat cycD).2.2.1.toNat < 9 := by omega
       exact h9)
    | (rename_i hreg
       have hreg : ((cycF (cn, ci, cr, cq, cm) op).getD at_.toNat cycD).2.2.1 = 7 ∨ ((cycF (cn, ci, cr, cq, cm) op).getD at_.toNat cycD).2.2.1 = 8 := hreg
       have h9 : ((cycF (cn, ci, cr, cq, cm) op).getD at_.toNat cycD).2.2.1.toNat < 9 := by omega
       exact h9)
    | (rename_i hreg
       clear hT hP
       have hreg : 0 ≤ ((cycF (cn, ci, cr, cq, cm) op).getD at_.toNat cycD).2.2.1 ∧ ((cycF (cn, ci, cr, cq, cm) op).getD at_.toNat cycD).2.2.1 ≤ 6 := hreg
       exact (⟨hreg.1, by omega⟩ : 0 ≤ ((cycF (cn, ci, cr, cq, cm) op).getD at_.toNat cycD).2.2.1 ∧ ((cycF (cn, ci, cr, cq, cm) op).getD at_.toNat cycD).2.2.1 < (9 : Int)))
    | (rename_i hreg
       clear hT hP
       have hreg : ((cycF (cn, ci, cr, cq, cm) op).getD at_.toNat cycD).2.2.1 = 7 ∨ ((cycF (cn, ci, cr, cq, cm) op).getD at_.toNat cycD).2.2.1 = 8 := hreg
       exact (⟨by omega, by omega⟩ : 0 ≤ ((cycF (cn, ci, cr, cq, cm) op).getD at_.toNat cycD).2.2.1 ∧ ((cycF (cn, ci, cr, cq, cm) op).getD at_.toNat cycD).2.2.1 < (9 : Int)))
    | (show ((cycF (cn, ci, cr, cq, cm) op).getD at_.toNat cycD).2.2.1.toNat < 9
       try simp only [narrowB, wideB, decide_eq_true_eq] at *
       omega)
    | (rename_i hop hlt
       have hh : hasI (cn, ci, cr, cq, cm) (data % 256) = false := decide_eq_false (by show ¬ 0 ≤ idxI ci (data % 256); omega)
       refine .mk [] [] _ rfl rfl rfl rfl rfl rfl (aggK ?_)
       rw [tellF_idle hop, if_neg (by rw [hh]; decide)])
    | (rename_i hop hge hlen
       have hlen : ((ci.getD (idxI ci (data % 256)).toNat (dflt InsT)).2.2.2.length : Int) > 0 := hlen
       have hh : hasI (cn, ci, cr, cq, cm) (data % 256) = true := decide_eq_true (by show 0 ≤ idxI ci (data % 256); omega)
       have hf : findI (cn, ci, cr, cq, cm) (data % 256) = ci.getD (idxI ci (data % 256)).toNat (dflt InsT) := if_pos hh
       refine .mk [] [] _ rfl rfl rfl rfl rfl rfl (aggK ?_)
       rw [tellF_idle hop, if_pos hh, hf, if_pos (by omega)])
    | (rename_i hop hge hlen
       have hlen : ¬ ((ci.getD (idxI ci (data % 256)).toNat (dflt InsT)).2.2.2.length : Int) > 0 := hlen
       have hh : hasI (cn, ci, cr, cq, cm) (data % 256) = true := decide_eq_true (by show 0 ≤ idxI ci (data % 256); omega)
       have hf : findI (cn, ci, cr, cq, cm) (data % 256) = ci.getD (idxI ci (data % 256)).toNat (dflt InsT) := if_pos hh
       refine .mk [] [] _ rfl rfl rfl rfl rfl rfl (aggK ?_)
       rw [tellF_idle hop, if_pos hh, hf, if_neg (by omega), hop])
    | (have hb : canB (cn, ci, cr, cq, cm) op at_ = false := canB_f (by omega)
       refine .mk [] [] _ rfl rfl rfl rfl rfl rfl (aggK ?_)
       rw [tellF_ended (by assumption) hb]
       simp_all
       done)
    | skip
  all_goals
    have hb : canB (cn, ci, cr, cq, cm) op at_ = true := canB_t (by assumption) (by omega) (by omega)
    have hCl : (cycF (cn, ci, cr, cq, cm) op).length * 48 ≤ 140737488351232 := hC.1
    have ewa : IntKind.i64.wrap (at_ + 1) = at_ + 1 := w64 (by omega) (by omega)
    have hx : doF (cn, ci, cr, cq, cm) op at_ = ((cycF (cn, ci, cr, cq, cm) op).getD at_.toNat cycD) := if_pos hb
    rw [hx] at hS
  all_goals first
    | (have hbus : ((cycF (cn, ci, cr, cq, cm) op).getD at_.toNat cycD).1 = 1 := by assumption
       have hreg : 0 ≤ ((cycF (cn, ci, cr, cq, cm) op).getD at_.toNat cycD).2.2.1 ∧ ((cycF (cn, ci, cr, cq, cm) op).getD at_.toNat cycD).2.2.1 ≤ 6 := by assumption
       have hR : tellR ((cycF (cn, ci, cr, cq, cm) op).getD at_.toNat cycD) (fitR r) (data % 256) = ((fitR r).set ((cycF (cn, ci, cr, cq, cm) op).getD at_.toNat cycD).2.2.1.toNat (data % 256)) := if_pos ⟨hbus, by omega, by omega⟩
       refine up_go hT hP ((cycF (cn, ci, cr, cq, cm) op).getD at_.toNat cycD).2.2.2.length (fun i (z : List Int) => St.mk [.dead, .dead, .dead, .dead, .cell (.ptr 0 0), .dead, .cell (.ptr 1 0), .cell (.fn 75 [0]), .dead, .cell (.ro CycT (cycF (cn, ci, cr, cq, cm) op)), .dead, .dead, .dead, .dead, .dead, .dead, .dead, .dead, .dead, .dead, .dead, .dead, .dead, .dead, .dead, .dead, .dead, .dead, .dead, .dead, .dead, .dead, .dead, .dead, .dead, .dead, .dead, .dead, .dead, .dead, .dead, .dead, .dead, .dead, .dead, .dead, .dead, .dead, .dead, .dead, .dead, .dead, .dead, .dead, .dead, .dead, .dead, .dead, .dead, .dead, .dead, .dead, .dead, .dead, .dead, .dead, .dead, .dead, .dead, .dead, .dead, .dead, .dead, .dead, .dead, .dead, .dead, .dead, .dead, .dead, .dead, .dead, .dead, .dead, .dead, .dead, .dead, .dead, .dead, .dead, .dead, .dead, .dead, .cell (.ro StepT ((cycF (cn, ci, cr, cq, cm) op).getD at_.toNat cycD).2.2.2), I (((cycF (cn, ci, cr, cq, cm) op).getD at_.toNat cycD).2.2.2.length : Int), I i, .dead, .dead, .dead, .dead, .dead, .dead, .dead, .dead, .dead, .dead, .dead, .dead, .dead, .dead, .dead, .dead, .dead, .dead, .dead, .dead, .dead, .dead, .dead] [some (.var [.run .i64 9 z, iv .i64 op, iv .i64 (IntKind.i64.wrap (at_ + 1)), bv nmi]), some (.var [.run .i64 9 [0, 0, 0, 0, 0, 0, 0, 0, 0], iv .i64 0, iv .i64 0, bv false])]) (fun j z => runS (((cycF (cn, ci, cr, cq, cm) op).getD at_.toNat cycD).2.2.2.drop j) z = runS ((cycF (cn, ci, cr, cq, cm) op).getD at_.toNat cycD).2.2.2 (tellR ((cycF (cn, ci, cr, cq, cm) op).getD at_.toNat cycD) (fitR r) (data % 256)) ∧ z.length = 9) ((fitR r).set ((cycF (cn, ci, cr, cq, cm) op).getD at_.toNat cycD).2.2.1.toNat (data % 256)) (Le.mk [] [1, 3] rfl rfl (by exact rfl) (by repeat' first | exact trivial | exact ⟨rfl, rfl⟩ | refine And.intro ?_ ?_)) ⟨by rw [hR]; rfl, by rw [List.length_set]; rfl⟩ fun j z hj hi => ?_)
    | (have hbus : ((cycF (cn, ci, cr, cq, cm) op).getD at_.toNat cycD).1 = 1 := by assumption
       have hreg : ((cycF (cn, ci, cr, cq, cm) op).getD at_.toNat cycD).2.2.1 = 7 ∨ ((cycF (cn, ci, cr, cq, cm) op).getD at_.toNat cycD).2.2.1 = 8 := by assumption
       have hR : tellR ((cycF (cn, ci, cr, cq, cm) op).getD at_.toNat cycD) (fitR r) (data % 256) = ((fitR r).set ((cycF (cn, ci, cr, cq, cm) op).getD at_.toNat cycD).2.2.1.toNat (data % 256)) := if_pos ⟨hbus, by omega, by omega⟩
       refine up_go hT hP ((cycF (cn, ci, cr, cq, cm) op).getD at_.toNat cycD).2.2.2.length (fun i (z : List Int) => St.mk [.dead, .dead, .dead, .dead, .cell (.ptr 0 0), .dead, .cell (.ptr 1 0), .cell (.fn 75 [0]), .dead, .cell (.ro CycT (cycF (cn, ci, cr, cq, cm) op)), .dead, .dead, .dead, .dead, .dead, .dead, .dead, .dead, .dead, .dead, .dead, .dead, .dead, .dead, .dead, .dead, .dead, .dead, .dead, .dead, .dead, .dead, .dead, .dead, .dead, .dead, .dead, .dead, .dead, .dead, .dead, .dead, .dead, .dead, .dead, .dead, .dead, .dead, .dead, .dead, .dead, .dead, .dead, .dead, .dead, .dead, .dead, .dead, .dead, .dead, .dead, .dead, .dead, .dead, .dead, .dead, .dead, .dead, .dead, .dead, .dead, .dead, .dead, .dead, .dead, .dead, .dead, .dead, .dead, .dead, .dead, .dead, .dead, .dead, .dead, .dead, .dead, .dead, .dead, .dead, .dead, .dead, .dead, .cell (.ro StepT ((cycF (cn, ci, cr, cq, cm) op).getD at_.toNat cycD).2.2.2), I (((cycF (cn, ci, cr, cq, cm) op).getD at_.toNat cycD).2.2.2.length : Int), I i, .dead, .dead, .dead, .dead, .dead, .dead, .dead, .dead, .dead, .dead, .dead, .dead, .dead, .dead, .dead, .dead, .dead, .dead, .dead, .dead, .dead, .dead, .dead] [some (.var [.run .i64 9 z, iv .i64 op, iv .i64 (IntKind.i64.wrap (at_ + 1)), bv nmi]), some (.var [.run .i64 9 [0, 0, 0, 0, 0, 0, 0, 0, 0], iv .i64 0, iv .i64 0, bv false])]) (fun j z => runS (((cycF (cn, ci, cr, cq, cm) op).getD at_.toNat cycD).2.2.2.drop j) z = runS ((cycF (cn, ci, cr, cq, cm) op).getD at_.toNat cycD).2.2.2 (tellR ((cycF (cn, ci, cr, cq, cm) op).getD at_.toNat cycD) (fitR r) (data % 256)) ∧ z.length = 9) ((fitR r).set ((cycF (cn, ci, cr, cq, cm) op).getD at_.toNat cycD).2.2.1.toNat (data % 256)) (Le.mk [] [1, 3] rfl rfl (by exact rfl) (by repeat' first | exact trivial | exact ⟨rfl, rfl⟩ | refine And.intro ?_ ?_)) ⟨by rw [hR]; rfl, by rw [List.length_set]; rfl⟩ fun j z hj hi => ?_)
    | (have hreg : ¬ (0 ≤ ((cycF (cn, ci, cr, cq, cm) op).getD at_.toNat cycD).2.2.1 ∧ ((cycF (cn, ci, cr, cq, cm) op).getD at_.toNat cycD).2.2.1 ≤ 6) := by assumption
       have hreg2 : ¬ (((cycF (cn, ci, cr, cq, cm) op).getD at_.toNat cycD).2.2.1 = 7 ∨ ((cycF (cn, ci, cr, cq, cm) op).getD at_.toNat cycD).2.2.1 = 8) := by assumption
       have hR : tellR ((cycF (cn, ci, cr, cq, cm) op).getD at_.toNat cycD) (fitR r) (data % 256) = fitR r := if_neg (fun h => by obtain ⟨a, b, c⟩ := h; omega)
       refine up_go hT hP ((cycF (cn, ci, cr, cq, cm) op).getD at_.toNat cycD).2.2.2.length (fun i (z : List Int) => St.mk [.dead, .dead, .dead, .dead, .cell (.ptr 0 0), .dead, .cell (.ptr 1 0), .cell (.fn 75 [0]), .dead, .cell (.ro CycT (cycF (cn, ci, cr, cq, cm) op)), .dead, .dead, .dead, .dead, .dead, .dead, .dead, .dead, .dead, .dead, .dead, .dead, .dead, .dead, .dead, .dead, .dead, .dead, .dead, .dead, .dead, .dead, .dead, .dead, .dead, .dead, .dead, .dead, .dead, .dead, .dead, .dead, .dead, .dead, .dead, .dead, .dead, .dead, .dead, .dead, .dead, .dead, .dead, .dead, .dead, .dead, .dead, .dead, .dead, .dead, .dead, .dead, .dead, .dead, .dead, .dead, .dead, .dead, .dead, .dead, .dead, .dead, .dead, .dead, .dead, .dead, .dead, .dead, .dead, .dead, .dead, .dead, .dead, .dead, .dead, .dead, .dead, .dead, .dead, .dead, .dead, .dead, .dead, .cell (.ro StepT ((cycF (cn, ci, cr, cq, cm) op).getD at_.toNat cycD).2.2.2), I (((cycF (cn, ci, cr, cq, cm) op).getD at_.toNat cycD).2.2.2.length : Int), I i, .dead, .dead, .dead, .dead, .dead, .dead, .dead, .dead, .dead, .dead, .dead, .dead, .dead, .dead, .dead, .dead, .dead, .dead, .dead, .dead, .dead, .dead, .dead] [some (.var [.run .i64 9 z, iv .i64 op, iv .i64 (IntKind.i64.wrap (at_ + 1)), bv nmi]), some (.var [.run .i64 9 [0, 0, 0, 0, 0, 0, 0, 0, 0], iv .i64 0, iv .i64 0, bv false])]) (fun j z => runS (((cycF (cn, ci, cr, cq, cm) op).getD at_.toNat cycD).2.2.2.drop j) z = runS ((cycF (cn, ci, cr, cq, cm) op).getD at_.toNat cycD).2.2.2 (tellR ((cycF (cn, ci, cr, cq, cm) op).getD at_.toNat cycD) (fitR r) (data % 256)) ∧ z.length = 9) (fitR r) (Le.mk [] [1, 3] rfl rfl (by exact rfl) (by repeat' first | exact trivial | exact ⟨rfl, rfl⟩ | refine And.intro ?_ ?_)) ⟨by rw [hR]; rfl, rfl⟩ fun j z hj hi => ?_)
    | (have hbus : ¬ ((cycF (cn, ci, cr, cq, cm) op).getD at_.toNat cycD).1 = 1 := by assumption
       have hR : tellR ((cycF (cn, ci, cr, cq, cm) op).getD at_.toNat cycD) (fitR r) (data % 256) = fitR r := if_neg (fun h => hbus h.1)
       refine up_go hT hP ((cycF (cn, ci, cr, cq, cm) op).getD at_.toNat cycD).2.2.2.length (fun i (z : List Int) => St.mk [.dead, .dead, .dead, .dead, .cell (.ptr 0 0), .dead, .cell (.ptr 1 0), .cell (.fn 75 [0]), .dead, .cell (.ro CycT (cycF (cn, ci, cr, cq, cm) op)), .dead, .dead, .dead, .dead, .dead, .dead, .dead, .dead, .dead, .dead, .dead, .dead, .dead, .dead, .dead, .dead, .dead, .dead, .dead, .dead, .dead, .dead, .dead, .dead, .dead, .dead, .dead, .dead, .dead, .dead, .dead, .dead, .dead, .dead, .dead, .dead, .dead, .dead, .dead, .dead, .dead, .dead, .dead, .dead, .dead, .dead, .dead, .dead, .dead, .dead, .dead, .dead, .dead, .dead, .dead, .dead, .dead, .dead, .dead, .dead, .dead, .dead, .dead, .dead, .dead, .dead, .dead, .dead, .dead, .dead, .dead, .dead, .dead, .dead, .dead, .dead, .dead, .dead, .dead, .dead, .dead, .dead, .dead, .cell (.ro StepT ((cycF (cn, ci, cr, cq, cm) op).getD at_.toNat cycD).2.2.2), I (((cycF (cn, ci, cr, cq, cm) op).getD at_.toNat cycD).2.2.2.length : Int), I i, .dead, .dead, .dead, .dead, .dead, .dead, .dead, .dead, .dead, .dead, .dead, .dead, .dead, .dead, .dead, .dead, .dead, .dead, .dead, .dead, .dead, .dead, .dead] [some (.var [.run .i64 9 z, iv .i64 op, iv .i64 (IntKind.i64.wrap (at_ + 1)), bv nmi]), some (.var [.run .i64 9 [0, 0, 0, 0, 0, 0, 0, 0, 0], iv .i64 0, iv .i64 0, bv false])]) (fun j z => runS (((cycF (cn, ci, cr, cq, cm) op).getD at_.toNat cycD).2.2.2.drop j) z = runS ((cycF (cn, ci, cr, cq, cm) op).getD at_.toNat cycD).2.2.2 (tellR ((cycF (cn, ci, cr, cq, cm) op).getD at_.toNat cycD) (fitR r) (data % 256)) ∧ z.length = 9) (fitR r) (Le.mk [] [1, 3] rfl rfl (by exact rfl) (by repeat' first | exact trivial | exact ⟨rfl, rfl⟩ | refine And.intro ?_ ?_)) ⟨by rw [hR]; rfl, rfl⟩ fun j z hj hi => ?_)
    | skip
  all_goals
    obtain ⟨hi, hz⟩ := hi
    have hS' : ((cycF (cn, ci, cr, cq, cm) op).getD at_.toNat cycD).2.2.2.length * 32 ≤ 140737488351232 := hS
    repeat' first
      | (refine Go.mk ?_; conv => whnf)
      | refine Need.go ?_ ?_
      | refine NilG.go (fun _ => ?_) (fun _ => ?_)
      | refine Br.dec (fun _ => ?_) (fun _ => ?_)
      | refine Br.go (fun _ => ?_) (fun _ => ?_)
      | refine draw_go hT hP mixed ?_
      | refine round_go hT hP ?_
  all_goals (try simp only [castL_eq] at *)
  all_goals (try dsimp only at *)
  all_goals first
    | exact of_decide_eq_true rfl
    | exact hz
    | (show ci.length ≤ 4611686018427387904
       omega)
    | (show 0 ≤ (j : Int) ∧ (j : Int) < (((cycF (cn, ci, cr, cq, cm) op).getD at_.toNat cycD).2.2.2.length : Int)
       omega)
    | (show j < ((cycF (cn, ci, cr, cq, cm) op).getD at_.toNat cycD).2.2.2.length
       omega)
    | skip
  all_goals clear hT hP
  all_goals first
    | (rename_i g1 h
       have g1 : (j : Int) < (((cycF (cn, ci, cr, cq, cm) op).getD at_.toNat cycD).2.2.2.length : Int) := g1
       have he : doE (((cycF (cn, ci, cr, cq, cm) op).getD at_.toNat cycD).2.2.2.getD j (dflt StepT)) z = true := h
       have hrun : runS ((cycF (cn, ci, cr, cq, cm) op).getD at_.toNat cycD).2.2.2 (tellR ((cycF (cn, ci, cr, cq, cm) op).getD at_.toNat cycD) (fitR r) (data % 256)) = (doR (((cycF (cn, ci, cr, cq, cm) op).getD at_.toNat cycD).2.2.2.getD j (dflt StepT)) z, true) := by
         rw [← hi, stpDrop (by omega), runS, if_pos he]
       refine .mk [] [] _ rfl rfl rfl rfl rfl rfl (aggK ?_)
       rw [tellF_run (by assumption) hb hx hrun, if_pos (.inl rfl)]; rfl)
    | (rename_i g1 h
       have g1 : (j : Int) < (((cycF (cn, ci, cr, cq, cm) op).getD at_.toNat cycD).2.2.2.length : Int) := g1
       have he : ¬ doE (((cycF (cn, ci, cr, cq, cm) op).getD at_.toNat cycD).2.2.2.getD j (dflt StepT)) z = true := fun e => by
         have h : doE (((cycF (cn, ci, cr, cq, cm) op).getD at_.toNat cycD).2.2.2.getD j (dflt StepT)) z = false := h
         rw [h] at e; cases e
       apply Exists.intro
       apply Exists.intro (doR (((cycF (cn, ci, cr, cq, cm) op).getD at_.toNat cycD).2.2.2.getD j (dflt StepT)) z)
       refine And.intro (And.intro ?lt (And.intro ?ei ?inv)) (Le.mk [] [0, 1] rfl rfl ?hh ?ht)
       case hh => exact rfl
       case ht => repeat' first | exact trivial | exact ⟨rfl, rfl⟩ | refine And.intro ?_ ?_
       case lt => omega
       case ei => exact up_i (by omega)
       case inv =>
         rw [stpDrop (by omega), runS, if_neg he] at hi
         exact ⟨hi, doR_len _ _⟩)
    | (rename_i g1 h
       have g1 : ¬ (j : Int) < (((cycF (cn, ci, cr, cq, cm) op).getD at_.toNat cycD).2.2.2.length : Int) := g1
       have h : IntKind.i64.wrap (at_ + 1) = ((cycF (cn, ci, cr, cq, cm) op).length : Int) := h
       rw [ewa] at h
       have hrun : runS ((cycF (cn, ci, cr, cq, cm) op).getD at_.toNat cycD).2.2.2 (tellR ((cycF (cn, ci, cr, cq, cm) op).getD at_.toNat cycD) (fitR r) (data % 256)) = (z, false) := by
         rw [← hi, List.drop_of_length_le (by omega)]; rfl
       refine .mk [] [] _ rfl rfl rfl rfl rfl rfl (aggK ?_)
       rw [tellF_run (by assumption) hb hx hrun, if_pos (.inr (by omega))])
    | (rename_i g1 h
       have g1 : ¬ (j : Int) < (((cycF (cn, ci, cr, cq, cm) op).getD at_.toNat cycD).2.2.2.length : Int) := g1
       have h : ¬ IntKind.i64.wrap (at_ + 1) = ((cycF (cn, ci, cr, cq, cm) op).length : Int) := h
       rw [ewa] at h
       have hrun : runS ((cycF (cn, ci, cr, cq, cm) op).getD at_.toNat cycD).2.2.2 (tellR ((cycF (cn, ci, cr, cq, cm) op).getD at_.toNat cycD) (fitR r) (data % 256)) = (z, false) := by
         rw [← hi, List.drop_of_length_le (by omega)]; rfl
       refine .mk [] [] _ rfl rfl rfl rfl rfl rfl (aggK ?_)
       rw [tellF_run (by assumption) hb hx hrun, ewa, if_neg (fun e => e.elim (fun e => by cases e) (fun e => by omega))])
    | skip
  all_goals trace_state


def tlS : PSpec := ⟨[gCpu, gK, gi], fun (c, k, d, _) => (some (tellP c k), .cell (bv true), [])⟩
end Go.Proofs.Ytanaaecfghmmaaa

/- Contracts of functions that only read and are handed a function, last of all. -/
namespace Go.Fw
set_option linter.unusedVariables false
set_option linter.unusedSimpArgs false

structure FSpec where
  gs : List Sig
  out : Args gs → Nat → Option Prop × AV × List Blk

def decF : (gs : List Sig) → List V1 → Option (Args gs × Nat)
  | [], l => match l with
    | [.c (.fn g [])] => some ((), g)
    | _ => none
  | g :: gs, l => match l with
    | x :: xs => match decV g x with
      | some d => (match decF gs xs with | some (r, f) => some ((d, r), f) | none => none)
      | none => none
    | [] => none
def canonF (f : Nat) : (gs : List Sig) → Args gs → List V1
  | [], _ => [.c (.fn f [])]
  | g :: gs, (a, r) => canonV g a :: canonF f gs r

def FSpec.spec (s : FSpec) : CSpec := { wr := false, run := fun args bl => match bl with
  | [] => match decF s.gs args with
    | some (xs, f) => some ((s.out xs f).1, (s.out xs f).2.1, [], (s.out xs f).2.2)
    | none => none
  | _ :: _ => none }

theorem decF_rel {E : Env} (hH : HeapOk E) (hn : ∀ b, E.H b = none) : ∀ {gs : List Sig} {xs : List V1} {ds : Args gs} {f : Nat} {vs : List Value}, decF gs xs = some (ds, f) → VsR E xs vs → VsR E (canonF f gs ds) vs
  | [], xs, ds, f, vs, h, hv => by
    unfold decF at h
    split at h
    · injection h with h
      injection h with h1 h2
      subst h2
      exact hv
    · cases h
  | g :: gs, [], ds, f, vs, h, hv => by simp [decF] at h
  | g :: gs, x :: xs, ds, f, vs, h, ⟨v, r, e, h1, h2⟩ => by
    unfold decF at h
    simp only at h
    split at h
    · rename_i d hd
      split at h
      · rename_i rs f' hr
        injection h with h
        injection h with e1 e2
        subst e1
        subst e2
        exact ⟨v, r, e, decV_rel hH hn hd h1, decF_rel hH hn hr h2⟩
      · cases h
    · cases h

theorem FSpec.good {P : Program} {T : Tab} {f : FuncId} {fn : Func} (hT : TabOk P T) (hP : SpecsOk P T) (hf : P.funcs[f]? = some fn) (hn : (fn.name == "runtime.NumGoroutine") = false) (s : FSpec) (hb : fn.body.isSome = true)
    (h : AllArgs s.gs fun xs => ∀ g : Nat, (∀ q, (s.out xs g).1 = some q → q) → Go (startR P T fn (canonF g s.gs xs) [] (s.out xs g).2.1 [] (s.out xs g).2.2)) : GoodF P f s.spec := by
  refine ⟨?_, fn, hf, hn, hb⟩
  obtain ⟨c, hc⟩ := Option.isSome_iff_exists.1 hb
  refine fn_sound hT hf hc _ fun args bl p r upd fresh hrun hp => ?_
  unfold FSpec.spec at hrun
  simp only at hrun
  split at hrun
  · split at hrun
    · rename_i xs g hxs
      simp only [Option.some.injEq, Prod.mk.injEq] at hrun
      obtain ⟨rfl, rfl, rfl, rfl⟩ := hrun
      refine ⟨_, fun E vs hok hH hv => decF_rel hok (fun b => by rw [hH]; simp) hxs hv, ?_⟩
      have := (h.out xs g hp).out
      rw [startR_eq] at this
      unfold startC at this
      rw [hc] at this
      simp only [fV1s_eq, fBlks_eq, fSt_eq] at this
      exact ex_sound hT hP c this
    · cases hrun
  · cases hrun

/-- a nil slice in a variable becomes one of one's own -/
theorem Le.nilH {m : Nat} {st : St} (b : Nat) (t : Ty) (cs ds : List Cell) (h : st.heap[b]? = some (some (.var cs))) (hn : noCs st.heap.length cs = some ds) (hsz : ds.map Cell.size = cs.map Cell.size) :
    Le m st { tmps := st.tmps, heap := setAt (setAt st.heap st.heap.length (some (.arr t []))) b (some (.var ds)) } := by
  intro E0 E a hm hs hf
  have hlt : b < st.heap.length := (List.getElem?_eq_some_iff.1 h).1
  have hU : ¬ E.U st.heap.length := fun hu => by have := hs.U _ hu; omega
  have hstep : Step E { pre := none, val := .dead, add := [.arr t []], set := [] } st.heap.length (nilE E [] st.heap.length t) := Step.nil (us := []) hs.ok rfl rfl hU
  have hs1 := hs.step (dst := none) (v := undef) hstep trivial
  have hf1 := hf.step hstep
  have hlook : st.look b = some (.var cs) := by unfold St.look; rw [h]
  have hb : E.H b = some (.var cs) := (hs.H b).trans hlook
  have hne : b ≠ st.heap.length := by omega
  obtain ⟨hu, ⟨g, ca, el, hr, hw, hir⟩, hS⟩ := hs.ok.blk b _ hb
  have hb1 : (nilE E [] st.heap.length t).H b = some (.var cs) := by simp [nilE, hne, hb]
  have hr1 : (nilE E [] st.heap.length t).ρ b = some g := by simp [nilE, hne, hr]
  have hsh : shape (.var ds) = shape (.var cs) := by simp only [shape]; rw [hsz]
  have hwr : Writes (nilE E [] st.heap.length t) g ca ca el (nilE E [] st.heap.length t).w := ⟨hw, hw, rfl, fun _ _ => rfl, rfl, rfl, rfl, rfl⟩
  have hir1 := noCs_rel hstep.ext hn hir
  have hheap : (st.act st.heap.length { pre := none, val := .dead, add := [.arr t []], set := [] }).heap = setAt st.heap st.heap.length (some (.arr t [])) := rfl
  have hlen : b < (setAt st.heap st.heap.length (some (.arr t []))).length := by
    have := (len_addAll [.arr t []] st.heap st.heap.length).1
    exact Nat.lt_of_lt_of_le hlt this
  refine ⟨setE (nilE E [] st.heap.length t) b (.var ds) (nilE E [] st.heap.length t).w, rfl, ⟨hs1.defers, hs1.len, fun j y hy => ?_, setE_ok hs1.ok hb1 hr1 hsh hwr hir1, fun x => ?_, fun x hx => ?_⟩, ?_⟩
  · obtain ⟨v, h1, h2⟩ := hs1.tmp j y hy
    exact ⟨v, h1, h2.ext (setE_ext hs1.ok hb1 hr1 hsh hwr)⟩
  · show (if x = b then some (.var ds) else (nilE E [] st.heap.length t).H x) = St.look { tmps := st.tmps, heap := setAt (setAt st.heap st.heap.length (some (.arr t []))) b (some (.var ds)) } x
    unfold St.look
    rw [setAt_same (α := Nat) _ _ _ _ hlen]
    split
    · rfl
    · exact hs1.H x
  · have := hs1.U x hx
    show x < (setAt (setAt st.heap st.heap.length (some (.arr t []))) b (some (.var ds))).length
    rw [setAt_len _ _ _ hlen]
    exact this
  · exact ⟨setE_fr hs1.ok hb1 hr1 hwr hf1.fr, hf1.ext.trans (setE_ext hs1.ok hb1 hr1 hsh hwr)⟩

/-- a contract out of what a call gives that leaves the world as it was -/
theorem PSpec.of_calls {P : Program} {f : FuncId} {fn : Func} (hf : P.funcs[f]? = some fn) (hn : (fn.name == "runtime.NumGoroutine") = false) (hb : fn.body.isSome = true) (s : PSpec) (hfr : ∀ xs, (s.out xs).2.2 = [])
    (h : ∀ (E : Env) (xs : Args s.gs) (vs : Array Value), VsR E (canonArgs s.gs xs) vs.toList → (∀ q, (s.out xs).1 = some q → q) → Calls P f vs E.w fun e w' => (∃ v, e = .returned v ∧ AVR E (s.out xs).2.1 v) ∧ w' = E.w) : GoodF P f s.spec := by
  refine ⟨?_, fn, hf, hn, hb⟩
  intro E0 vs args bl p r upd fresh hH hU hok hvs hrun hp
  unfold PSpec.spec at hrun
  simp only at hrun
  split at hrun
  · split at hrun
    · rename_i xs hxs
      simp only [Option.some.injEq, Prod.mk.injEq] at hrun
      obtain ⟨rfl, rfl, rfl, rfl⟩ := hrun
      have hv := decArgs_rel hok (fun b => by rw [hH]; simp) hxs hvs
      refine (h E0 xs vs hv hp).mono ?_
      rintro e w' ⟨⟨v, rfl, hr⟩, rfl⟩
      refine ⟨v, E0, rfl, rfl, hr, hok, fun b => ?_, fun b => ?_, Ext.refl E0, frameOf_ok⟩
      · rw [hH, hfr]; simp
      · rw [hU, hfr]; simp
    · cases hrun
  · cases hrun

end Go.Fw

/- Methods that are called through an interface. -/
namespace Go.Fw
set_option linter.unusedVariables false
set_option linter.unusedSimpArgs false

def methOf (t : Nat) (n : String) : List (Nat × String × Nat) → Option Nat
  | [] => none
  | (u, s, f) :: r => match Nat.beq t u && s == n with
    | true => some f
    | false => methOf t n r
/-- a method with a pointer receiver, of a pointer's type -/
def chkMeth (P : Program) (t : Nat) (n : String) (f : Nat) : Bool := match P.info? t, P.underlying t with
  | some i, some (.pointer _) => match i.methods.find? (·.name == n) with
    | some m => m.path.isEmpty && decide (m.func = some (f, true))
    | none => false
  | _, _ => false
def chkMeths (P : Program) : List (Nat × String × Nat) → Bool
  | [] => true
  | (u, s, f) :: r => chkMeth P u s f && chkMeths P r
def tabM (T : TTree) (ms : List (Nat × String × Nat)) (fs : List (Nat × CSpec)) : Tab := { ty := fun t => T.get t, fn := fun f => fnOf f fs, meth := fun t n => methOf t n ms }
theorem chkMeths_ok {P : Program} : ∀ {ms : List (Nat × String × Nat)}, chkMeths P ms = true → ∀ t n f, methOf t n ms = some f → chkMeth P t n f = true
  | [], _, t, n, f, h => by cases h
  | (u, s, g) :: r, hc, t, n, f, h => by
    simp only [chkMeths, Bool.and_eq_true] at hc
    unfold methOf at h
    split at h
    · rename_i hb
      rw [Bool.and_eq_true] at hb
      injection h with h
      subst h
      rw [Nat.eq_of_beq_eq_true hb.1, ← (beq_iff_eq.1 hb.2)]
      exact hc.1
    · exact chkMeths_ok hc.2 t n f h
theorem method_run {P : Program} {t : Nat} {n : String} {f : Nat} (h : chkMeth P t n f = true) (v : Value) (w : World) : (method (P.types.size + Made.depth) t v n).run P w = .ok (f, v) w := by
  unfold chkMeth at h
  split at h
  · rename_i i e hi hu
    split at h
    · rename_i m hm
      rw [Bool.and_eq_true, decide_eq_true_eq] at h
      obtain ⟨h1, h2⟩ := h
      obtain ⟨k, hk⟩ : ∃ k, P.types.size + Made.depth = k + 1 := by
        refine ⟨P.types.size + Made.depth - 1, ?_⟩
        have : 0 < Made.depth := by decide
        omega
      have hp : m.path = #[] := Array.isEmpty_iff.1 h1
      rw [hk]
      unfold method
      simp [run_typeInfo, hi, hm, hp, follow, h2, receiverAt, run_underlying, hu, Place.get, go_sem]
    · cases h
  · cases h
theorem tabM_ok {P : Program} {T : TTree} {ms : List (Nat × String × Nat)} {fs : List (Nat × CSpec)} (h : chkTree P T = true) (hm : chkMeths P ms = true) : TabOk P (tabM T ms fs) :=
  ⟨chkTree_ok h, fun t name f h2 v w => method_run (chkMeths_ok hm t name f h2) v w⟩
theorem specsM {P : Program} {T : TTree} {ms : List (Nat × String × Nat)} {fs : List (Nat × CSpec)} (h : SpecsOk P (tab T fs)) : SpecsOk P (tabM T ms fs) := h

end Go.Fw

