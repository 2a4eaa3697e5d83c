/- The chip with two voices: registers. -/
import Derived.Test.YthpijepbbpcjeaaSound2
import Derived.Test.YthpijepbbpcjeaaFw33
namespace Go.Proofs.Ythpijepbbpcjeaa
open Go.Fw
set_option linter.unusedVariables false
set_option linter.unusedSimpArgs false
set_option maxRecDepth 100000

def otickS : PSpec := ⟨[gD], fun (d, _) => (none, devR, [.arr (.int .i64) (tickW (sndN d.1))])⟩
theorem otick_ok : Good Try.prog 42 otickS.spec := by
  have hT := tab_ok (fs := [(43, oskipS.spec)]) tree_ok
  have hP : SpecsOk Try.prog (tab tree [(43, oskipS.spec)]) := specs_cons oskip_ok specs_nil
  refine otickS.good (fn := Try.f42) hT hP Try.func42 (by kernel_rfl) rfl fun (d : Dv) _ => ?_
  obtain ⟨N, M⟩ := d
  repeat' first
    | (refine Go.mk ?_; conv => whnf)
    | refine Need.go ?_ ?_
    | refine NilG.go (fun _ => ?_) (fun _ => ?_)
    | refine Br.dec (fun _ => ?_) (fun _ => ?_)
    | refine Br.go (fun _ => ?_) (fun _ => ?_)
    | refine draw_go hT hP mixed ?_
    | refine round_go hT hP ?_
  · exact of_decide_eq_true rfl
  · exact .mk [] [2] _ rfl rfl rfl rfl rfl rfl rfl

theorem oR (N : List Int) : (0 ≤ N.getD 0 0 % 4096 ∧ N.getD 0 0 % 4096 < 4096) ∧ (0 ≤ N.getD 1 0 % 16 ∧ N.getD 1 0 % 16 < 16) ∧ (0 ≤ N.getD 4 0 % 2 ∧ N.getD 4 0 % 2 < 2) ∧ (0 ≤ N.getD 6 0 % 4096 ∧ N.getD 6 0 % 4096 < 4096) ∧ (0 ≤ N.getD 7 0 % 16 ∧ N.getD 7 0 % 16 < 16) ∧ (0 ≤ N.getD 10 0 % 2 ∧ N.getD 10 0 % 2 < 2) := by omega
theorem mul_small {a b : Int} (h1 : 0 ≤ a ∧ a < 16) (h2 : 0 ≤ b ∧ b < 2) : 0 ≤ a * b ∧ a * b < 16 := by
  have : b = 0 ∨ b = 1 := by omega
  rcases this with rfl | rfl <;> omega
def ooutF (N : List Int) : Int := N.getD 1 0 % 16 * (N.getD 4 0 % 2) + N.getD 7 0 % 16 * (N.getD 10 0 % 2)
def ooutS : PSpec := ⟨[gD], fun (d, _) => (none, I (ooutF d.1), [])⟩
theorem oout_wrap (N : List Int) : IntKind.i64.wrap (IntKind.i64.wrap (N.getD 1 0 % 16 * (N.getD 4 0 % 2)) + IntKind.i64.wrap (N.getD 7 0 % 16 * (N.getD 10 0 % 2))) = ooutF N := by
  obtain ⟨h0, h1, h2, h3, h4, h5⟩ := oR N
  have m1 := mul_small h1 h2
  have m2 := mul_small h4 h5
  rw [w64 (x := N.getD 1 0 % 16 * (N.getD 4 0 % 2)) (by omega) (by omega), w64 (x := N.getD 7 0 % 16 * (N.getD 10 0 % 2)) (by omega) (by omega), w64 (by omega) (by omega)]; rfl
theorem oout_ok : Good Try.prog 68 ooutS.spec := by
  have hT := tab_ok (fs := [(98, ofitS.spec)]) tree_ok
  have hP : SpecsOk Try.prog (tab tree [(98, ofitS.spec)]) := specs_cons ofit_ok specs_nil
  refine ooutS.good (fn := Try.f68) hT hP Try.func68 (by kernel_rfl) rfl fun (d : Dv) _ => ?_
  obtain ⟨N, M⟩ := d
  repeat' first
    | (refine Go.mk ?_; conv => whnf)
    | refine Need.go ?_ ?_
    | refine NilG.go (fun _ => ?_) (fun _ => ?_)
    | refine Br.dec (fun _ => ?_) (fun _ => ?_)
    | refine Br.go (fun _ => ?_) (fun _ => ?_)
    | refine draw_go hT hP mixed ?_
    | refine round_go hT hP ?_
  all_goals first
    | exact of_decide_eq_true rfl
    | (refine .mk [] [] _ rfl rfl rfl rfl rfl rfl (imm_int ?_)
       exact oout_wrap N)
    | skip

def onextF (N : List Int) : Int := min (quietV (vo N 0)) (quietV (vo N 6))
def onextS : PSpec := ⟨[gD], fun (d, _) => (none, I (onextF d.1), [])⟩
theorem onext_ok : Good Try.prog 69 onextS.spec := by
  have hT := tab_ok (fs := [(98, ofitS.spec), (99, quietS.spec)]) tree_ok
  have hP : SpecsOk Try.prog (tab tree [(98, ofitS.spec), (99, quietS.spec)]) := specs_cons ofit_ok (specs_cons quiet_ok specs_nil)
  refine onextS.good (fn := Try.f69) hT hP Try.func69 (by kernel_rfl) rfl fun (d : Dv) _ => ?_
  obtain ⟨N, M⟩ := d
  repeat' first
    | (refine Go.mk ?_; conv => whnf)
    | refine Need.go ?_ ?_
    | refine NilG.go (fun _ => ?_) (fun _ => ?_)
    | refine Br.dec (fun _ => ?_) (fun _ => ?_)
    | refine Br.go (fun _ => ?_) (fun _ => ?_)
    | refine draw_go hT hP mixed ?_
    | refine round_go hT hP ?_
  all_goals first
    | exact of_decide_eq_true rfl
    | exact vo_ok N 0
    | exact vo_ok N 6
    | (refine .mk [] [] _ rfl rfl rfl rfl rfl rfl (imm_int ?_)
       show imin (quietV (vo N 0)) (quietV (vo N 6)) = onextF N
       rw [imin_eq]; rfl)
    | skip

def voiceLoS : WSpec := ⟨List Int × Int, fun x => [.c (.own 0), I1 x.2], fun x => [.arr (.int .i64) x.1], fun a b => (match a, b with | [.c (.own 0), .c (.imm (.int .i64 k))], [.arr (.int .i64) n] => some (n, k) | _, _ => none),
  fun x => (some ((0 ≤ x.2 ∧ x.2 < 4) ∧ List.length x.1 = 12), .cell (.sub 0 0 6), [some (.arr (.int .i64) x.1)], [])⟩
theorem voiceLo_ok : Good Try.prog 120 voiceLoS.spec := by
  have hT := tab_ok (fs := []) tree_ok
  have hP : SpecsOk Try.prog (tab tree []) := specs_nil
  refine voiceLoS.good (fn := Try.f120) hT hP Try.func120 (by kernel_rfl) rfl ?_ fun ((l, a) : List Int × Int) hq => ?_
  · intro a b x h
    simp only [voiceLoS] at h
    split at h
    · injection h with h; subst h; exact ⟨rfl, rfl⟩
    · cases h
  obtain ⟨hp, hl⟩ : (0 ≤ a ∧ a < 4) ∧ l.length = 12 := hq _ rfl
  have ha : a = 0 ∨ a = 1 ∨ a = 2 ∨ a = 3 := by omega
  rcases ha with rfl | rfl | rfl | rfl
  all_goals
    repeat' first
      | (refine Go.mk ?_; conv => whnf)
      | refine Need.go ?_ ?_
      | refine NilG.go (fun _ => ?_) (fun _ => ?_)
      | refine Br.dec (fun _ => ?_) (fun _ => ?_)
      | refine Br.go (fun _ => ?_) (fun _ => ?_)
      | refine draw_go hT hP mixed ?_
      | refine round_go hT hP ?_
    all_goals first
      | exact of_decide_eq_true rfl
      | (exfalso; rename_i h; revert h; decide)
      | (show (0 : Int) ≤ 0 ∧ (0 : Int) ≤ 6 ∧ (6 : Int) ≤ (l.length : Nat)
         rw [hl]; decide)
      | exact .mk [] [0] _ rfl rfl rfl rfl rfl rfl rfl
      | skip
def voiceHiS : WSpec := ⟨List Int × Int, fun x => [.c (.own 0), I1 x.2], fun x => [.arr (.int .i64) x.1], fun a b => (match a, b with | [.c (.own 0), .c (.imm (.int .i64 k))], [.arr (.int .i64) n] => some (n, k) | _, _ => none),
  fun x => (some ((4 ≤ x.2 ∧ x.2 < 8) ∧ List.length x.1 = 12), .cell (.sub 0 6 6), [some (.arr (.int .i64) x.1)], [])⟩
theorem voiceHi_ok : Good Try.prog 120 voiceHiS.spec := by
  have hT := tab_ok (fs := []) tree_ok
  have hP : SpecsOk Try.prog (tab tree []) := specs_nil
  refine voiceHiS.good (fn := Try.f120) hT hP Try.func120 (by kernel_rfl) rfl ?_ fun ((l, a) : List Int × Int) hq => ?_
  · intro a b x h
    simp only [voiceHiS] at h
    split at h
    · injection h with h; subst h; exact ⟨rfl, rfl⟩
    · cases h
  obtain ⟨hp, hl⟩ : (4 ≤ a ∧ a < 8) ∧ l.length = 12 := hq _ rfl
  have ha : a = 4 ∨ a = 5 ∨ a = 6 ∨ a = 7 := by omega
  rcases ha with rfl | rfl | rfl | rfl
  all_goals
    repeat' first
      | (refine Go.mk ?_; conv => whnf)
      | refine Need.go ?_ ?_
      | refine NilG.go (fun _ => ?_) (fun _ => ?_)
      | refine Br.dec (fun _ => ?_) (fun _ => ?_)
      | refine Br.go (fun _ => ?_) (fun _ => ?_)
      | refine draw_go hT hP mixed ?_
      | refine round_go hT hP ?_
    all_goals first
      | exact of_decide_eq_true rfl
      | (exfalso; rename_i h; revert h; decide)
      | (show (0 : Int) ≤ 6 ∧ (6 : Int) ≤ 12 ∧ (12 : Int) ≤ (l.length : Nat)
         rw [hl]; decide)
      | exact .mk [] [0] _ rfl rfl rfl rfl rfl rfl rfl
      | skip
def voiceNoS : WSpec := ⟨List Int × Int, fun x => [.c (.own 0), I1 x.2], fun x => [.arr (.int .i64) x.1], fun a b => (match a, b with | [.c (.own 0), .c (.imm (.int .i64 k))], [.arr (.int .i64) n] => some (n, k) | _, _ => none),
  fun x => (some (x.2 < 0 ∨ x.2 ≥ 8), .cell (.imm (.slice none 0 0)), [some (.arr (.int .i64) x.1)], [])⟩
theorem voiceNo_ok : Good Try.prog 120 voiceNoS.spec := by
  have hT := tab_ok (fs := []) tree_ok
  have hP : SpecsOk Try.prog (tab tree []) := specs_nil
  refine voiceNoS.good (fn := Try.f120) hT hP Try.func120 (by kernel_rfl) rfl ?_ fun ((l, a) : List Int × Int) hq => ?_
  · intro a b x h
    simp only [voiceNoS] at h
    split at h
    · injection h with h; subst h; exact ⟨rfl, rfl⟩
    · cases h
  have hp : a < 0 ∨ a ≥ 8 := hq _ rfl
  repeat' first
    | (refine Go.mk ?_; conv => whnf)
    | refine Need.go ?_ ?_
    | refine NilG.go (fun _ => ?_) (fun _ => ?_)
    | refine Br.dec (fun _ => ?_) (fun _ => ?_)
    | refine Br.go (fun _ => ?_) (fun _ => ?_)
    | refine draw_go hT hP mixed ?_
    | refine round_go hT hP ?_
  all_goals first
    | exact .mk [] [0] _ rfl rfl rfl rfl rfl rfl rfl
    | (exfalso; dsimp only at *; omega)
    | skip

def orF (N : List Int) (a : Int) : Int := pickF [N.getD 0 0 % 4096 % 256, N.getD 0 0 % 4096 / 256, N.getD 1 0 % 16, N.getD 2 0 % 256, N.getD 6 0 % 4096 % 256, N.getD 6 0 % 4096 / 256, N.getD 7 0 % 16, N.getD 8 0 % 256] a
theorem get_lo {n : Int} : n / 2 ^ (0 : Int).toNat % 2 ^ (8 : Int).toNat = n % 256 := by
  show n / 1 % 256 = n % 256
  rw [Int.ediv_one]
theorem get_hi {n : Int} (h : 0 ≤ n ∧ n < 4096) : n / 2 ^ (8 : Int).toNat % 2 ^ (4 : Int).toNat = n / 256 := by
  show n / 256 % 16 = n / 256
  omega
def oreadLoS : PSpec := ⟨[gD, gi], fun (d, a, _) => (some (0 ≤ a ∧ a < 4), .tup [.agg [.own 0, .imm (.slice none 0 0)], I1 (orF d.1 a)], [.arr (.int .i64) (sndN d.1)])⟩
theorem oreadLo_ok : Good Try.prog 66 oreadLoS.spec := by
  have hT := tab_ok (fs := [(98, ofitS.spec), (120, voiceLoS.spec), (121, getM.spec)]) tree_ok
  have hP : SpecsOk Try.prog (tab tree [(98, ofitS.spec), (120, voiceLoS.spec), (121, getM.spec)]) := specs_cons ofit_ok (specs_cons voiceLo_ok (specs_cons getM_ok specs_nil))
  refine oreadLoS.good (fn := Try.f66) hT hP Try.func66 (by kernel_rfl) rfl fun (d : Dv) (a : Int) hq => ?_
  have hp : 0 ≤ a ∧ a < 4 := hq _ rfl
  obtain ⟨N, M⟩ := d
  obtain ⟨h0, h1, h2, h3, h4, h5⟩ := oR N
  have ha : a = 0 ∨ a = 1 ∨ a = 2 ∨ a = 3 := by omega
  rcases ha with rfl | rfl | rfl | rfl
  all_goals
    repeat' first
      | (refine Go.mk ?_; conv => whnf)
      | refine Need.go ?_ ?_
      | refine NilG.go (fun _ => ?_) (fun _ => ?_)
      | refine Br.dec (fun _ => ?_) (fun _ => ?_)
      | refine Br.go (fun _ => ?_) (fun _ => ?_)
      | refine draw_go hT hP mixed ?_
      | refine round_go hT hP ?_
    all_goals first
      | exact of_decide_eq_true rfl
      | exact ⟨of_decide_eq_true rfl, rfl⟩
      | (exfalso; rename_i h; exact absurd (show (6 : Nat) = 0 from h) (by decide))
      | (show 0 ≤ N.getD 0 0 % 4096 ∧ N.getD 0 0 % 4096 < 4611686018427387904 ∧ _
         exact ⟨by omega, by omega, by decide, by decide, by decide⟩)
      | (refine .mk [] [2] _ rfl rfl rfl rfl rfl rfl (tup_reads ?_)
         first | exact get_lo | exact get_hi h0 | exact rfl)
      | skip
def oreadHiS : PSpec := ⟨[gD, gi], fun (d, a, _) => (some (4 ≤ a ∧ a < 8), .tup [.agg [.own 0, .imm (.slice none 0 0)], I1 (orF d.1 a)], [.arr (.int .i64) (sndN d.1)])⟩
theorem oreadHi_ok : Good Try.prog 66 oreadHiS.spec := by
  have hT := tab_ok (fs := [(98, ofitS.spec), (120, voiceHiS.spec), (121, getM.spec)]) tree_ok
  have hP : SpecsOk Try.prog (tab tree [(98, ofitS.spec), (120, voiceHiS.spec), (121, getM.spec)]) := specs_cons ofit_ok (specs_cons voiceHi_ok (specs_cons getM_ok specs_nil))
  refine oreadHiS.good (fn := Try.f66) hT hP Try.func66 (by kernel_rfl) rfl fun (d : Dv) (a : Int) hq => ?_
  have hp : 4 ≤ a ∧ a < 8 := hq _ rfl
  obtain ⟨N, M⟩ := d
  obtain ⟨h0, h1, h2, h3, h4, h5⟩ := oR N
  have ha : a = 4 ∨ a = 5 ∨ a = 6 ∨ a = 7 := by omega
  rcases ha with rfl | rfl | rfl | rfl
  all_goals
    repeat' first
      | (refine Go.mk ?_; conv => whnf)
      | refine Need.go ?_ ?_
      | refine NilG.go (fun _ => ?_) (fun _ => ?_)
      | refine Br.dec (fun _ => ?_) (fun _ => ?_)
      | refine Br.go (fun _ => ?_) (fun _ => ?_)
      | refine draw_go hT hP mixed ?_
      | refine round_go hT hP ?_
    all_goals first
      | exact of_decide_eq_true rfl
      | exact ⟨of_decide_eq_true rfl, rfl⟩
      | (exfalso; rename_i h; exact absurd (show (6 : Nat) = 0 from h) (by decide))
      | (show 0 ≤ N.getD 6 0 % 4096 ∧ N.getD 6 0 % 4096 < 4611686018427387904 ∧ _
         exact ⟨by omega, by omega, by decide, by decide, by decide⟩)
      | (refine .mk [] [2] _ rfl rfl rfl rfl rfl rfl (tup_reads ?_)
         first | exact get_lo | exact get_hi h3 | exact rfl)
      | skip
def oreadNoS : PSpec := ⟨[gD, gi], fun (d, a, _) => (some (a < 0 ∨ a ≥ 8), .tup [.agg [.own 0, .imm (.slice none 0 0)], I1 (orF d.1 a)], [.arr (.int .i64) (sndN d.1)])⟩
theorem oreadNo_ok : Good Try.prog 66 oreadNoS.spec := by
  have hT := tab_ok (fs := [(98, ofitS.spec), (120, voiceNoS.spec), (121, getM.spec)]) tree_ok
  have hP : SpecsOk Try.prog (tab tree [(98, ofitS.spec), (120, voiceNoS.spec), (121, getM.spec)]) := specs_cons ofit_ok (specs_cons voiceNo_ok (specs_cons getM_ok specs_nil))
  refine oreadNoS.good (fn := Try.f66) hT hP Try.func66 (by kernel_rfl) rfl fun (d : Dv) (a : Int) hq => ?_
  have hp : a < 0 ∨ a ≥ 8 := hq _ rfl
  obtain ⟨N, M⟩ := d
  obtain ⟨h0, h1, h2, h3, h4, h5⟩ := oR N
  repeat' first
    | (refine Go.mk ?_; conv => whnf)
    | refine Need.go ?_ ?_
    | refine NilG.go (fun _ => ?_) (fun _ => ?_)
    | refine Br.dec (fun _ => ?_) (fun _ => ?_)
    | refine Br.go (fun _ => ?_) (fun _ => ?_)
    | refine draw_go hT hP mixed ?_
    | refine round_go hT hP ?_
  all_goals first
    | exact hp
    | contradiction
    | (refine .mk [] [2] _ rfl rfl rfl rfl rfl rfl (tup_reads ?_)
       exact (pick_no fun i hi => by
         have : i < 8 := hi
         omega).symm)
    | skip
theorem out8 (a : Int) (h : ¬ (0 ≤ a ∧ a < 8)) : a < 0 ∨ a ≥ 8 := by omega
def oreadS : PSpec := ⟨[gD, gi], fun (d, a, _) => (none, .tup [.agg [.own 0, .imm (.slice none 0 0)], I1 (orF d.1 a)], [.arr (.int .i64) (sndN d.1)])⟩
def oread8S : PSpec := ⟨[gD, gi], fun (d, a, _) => (some (0 ≤ a ∧ a < 8), .tup [.agg [.own 0, .imm (.slice none 0 0)], I1 (orF d.1 a)], [.arr (.int .i64) (sndN d.1)])⟩
theorem oread8_ok : Good Try.prog 66 oread8S.spec := Good.cases oreadLo_ok oreadHi_ok fun (d, a, _) hq => by
  have hp : 0 ≤ a ∧ a < 8 := hq _ rfl
  rcases Int.lt_or_le a 4 with h | h
  · exact .inl ⟨fun q hq => by cases hq; exact ⟨hp.1, h⟩, rfl⟩
  · exact .inr ⟨fun q hq => by cases hq; exact ⟨h, hp.2⟩, rfl⟩
theorem oread_ok : Good Try.prog 66 oreadS.spec := Good.cases oread8_ok oreadNo_ok fun (d, a, _) _ => by
  by_cases h : 0 ≤ a ∧ a < 8
  · exact .inl ⟨fun q hq => by cases hq; exact h, rfl⟩
  · exact .inr ⟨fun q hq => by cases hq; exact out8 a h, rfl⟩

def owF (N : List Int) (a k : Int) : List Int :=
  if a = 0 then (sndN N).set 0 (N.getD 0 0 % 4096 / 256 * 256 + k % 256) else if a = 1 then (sndN N).set 0 (N.getD 0 0 % 4096 % 256 + k % 16 * 256) else if a = 2 then ((sndN N).set 1 (k % 16)).set 5 0 else if a = 3 then (sndN N).set 2 (k % 256)
  else if a = 4 then (sndN N).set 6 (N.getD 6 0 % 4096 / 256 * 256 + k % 256) else if a = 5 then (sndN N).set 6 (N.getD 6 0 % 4096 % 256 + k % 16 * 256) else if a = 6 then ((sndN N).set 7 (k % 16)).set 11 0 else if a = 7 then (sndN N).set 8 (k % 256) else sndN N
theorem put_lo {n k : Int} (h : 0 ≤ n ∧ n < 4096) : 2 ^ (0 : Int).toNat * (2 ^ (8 : Int).toNat * (n / 2 ^ ((0 : Int) + 8).toNat) + k % 2 ^ (8 : Int).toNat) + n % 2 ^ (0 : Int).toNat = n / 256 * 256 + k % 256 := by
  show 1 * (256 * (n / 256) + k % 256) + n % 1 = _
  omega
theorem put_hi {n k : Int} (h : 0 ≤ n ∧ n < 4096) : 2 ^ (8 : Int).toNat * (2 ^ (4 : Int).toNat * (n / 2 ^ ((8 : Int) + 4).toNat) + k % 2 ^ (4 : Int).toNat) + n % 2 ^ (8 : Int).toNat = n % 256 + k % 16 * 256 := by
  show 256 * (16 * (n / 4096) + k % 16) + n % 256 = _
  omega
theorem set_eq {l : List Int} {i : Nat} {x y : Int} (h : x = y) : l.set i x = l.set i y := by rw [h]
def owriteLoS : PSpec := ⟨[gD, gi, gi], fun (d, a, k, _) => (some (0 ≤ a ∧ a < 4), devR, [.arr (.int .i64) (owF d.1 a k)])⟩
theorem owriteLo_ok : Good Try.prog 67 owriteLoS.spec := by
  have hT := tab_ok (fs := [(98, ofitS.spec), (120, voiceLoS.spec), (122, putM.spec), (94, lowM.spec)]) tree_ok
  have hP : SpecsOk Try.prog (tab tree [(98, ofitS.spec), (120, voiceLoS.spec), (122, putM.spec), (94, lowM.spec)]) := specs_cons ofit_ok (specs_cons voiceLo_ok (specs_cons putM_ok (specs_cons lowM_ok specs_nil)))
  refine owriteLoS.good (fn := Try.f67) hT hP Try.func67 (by kernel_rfl) rfl fun (d : Dv) (a k : Int) hq => ?_
  have hp : 0 ≤ a ∧ a < 4 := hq _ rfl
  obtain ⟨N, M⟩ := d
  obtain ⟨h0, h1, h2, h3, h4, h5⟩ := oR N
  have ha : a = 0 ∨ a = 1 ∨ a = 2 ∨ a = 3 := by omega
  rcases ha with rfl | rfl | rfl | rfl
  all_goals
    repeat' first
      | (refine Go.mk ?_; conv => whnf)
      | refine Need.go ?_ ?_
      | refine NilG.go (fun _ => ?_) (fun _ => ?_)
      | refine Br.dec (fun _ => ?_) (fun _ => ?_)
      | refine Br.go (fun _ => ?_) (fun _ => ?_)
      | refine draw_go hT hP mixed ?_
      | refine round_go hT hP ?_
    all_goals first
      | exact of_decide_eq_true rfl
      | exact ⟨of_decide_eq_true rfl, rfl⟩
      | (exfalso; rename_i h; exact absurd (show (6 : Nat) = 0 from h) (by decide))
      | (show 0 ≤ N.getD 0 0 % 4096 ∧ N.getD 0 0 % 4096 < 4611686018427387904 ∧ _
         exact ⟨by omega, by omega, by decide, by decide, by decide⟩)
      | exact .mk [] [2] _ rfl rfl rfl rfl rfl rfl rfl
      | (refine .mk [] [2] _ rfl rfl rfl rfl rfl (blk_eqs ?_) rfl
         first | exact set_eq (put_lo h0) | exact set_eq (put_hi h0))
      | skip
def owriteHiS : PSpec := ⟨[gD, gi, gi], fun (d, a, k, _) => (some (4 ≤ a ∧ a < 8), devR, [.arr (.int .i64) (owF d.1 a k)])⟩
theorem owriteHi_ok : Good Try.prog 67 owriteHiS.spec := by
  have hT := tab_ok (fs := [(98, ofitS.spec), (120, voiceHiS.spec), (122, putM.spec), (94, lowM.spec)]) tree_ok
  have hP : SpecsOk Try.prog (tab tree [(98, ofitS.spec), (120, voiceHiS.spec), (122, putM.spec), (94, lowM.spec)]) := specs_cons ofit_ok (specs_cons voiceHi_ok (specs_cons putM_ok (specs_cons lowM_ok specs_nil)))
  refine owriteHiS.good (fn := Try.f67) hT hP Try.func67 (by kernel_rfl) rfl fun (d : Dv) (a k : Int) hq => ?_
  have hp : 4 ≤ a ∧ a < 8 := hq _ rfl
  obtain ⟨N, M⟩ := d
  obtain ⟨h0, h1, h2, h3, h4, h5⟩ := oR N
  have ha : a = 4 ∨ a = 5 ∨ a = 6 ∨ a = 7 := by omega
  rcases ha with rfl | rfl | rfl | rfl
  all_goals
    repeat' first
      | (refine Go.mk ?_; conv => whnf)
      | refine Need.go ?_ ?_
      | refine NilG.go (fun _ => ?_) (fun _ => ?_)
      | refine Br.dec (fun _ => ?_) (fun _ => ?_)
      | refine Br.go (fun _ => ?_) (fun _ => ?_)
      | refine draw_go hT hP mixed ?_
      | refine round_go hT hP ?_
    all_goals first
      | exact of_decide_eq_true rfl
      | exact ⟨of_decide_eq_true rfl, rfl⟩
      | (exfalso; rename_i h; exact absurd (show (6 : Nat) = 0 from h) (by decide))
      | (show 0 ≤ N.getD 6 0 % 4096 ∧ N.getD 6 0 % 4096 < 4611686018427387904 ∧ _
         exact ⟨by omega, by omega, by decide, by decide, by decide⟩)
      | exact .mk [] [2] _ rfl rfl rfl rfl rfl rfl rfl
      | (refine .mk [] [2] _ rfl rfl rfl rfl rfl (blk_eqs ?_) rfl
         first | exact set_eq (put_lo h3) | exact set_eq (put_hi h3))
      | skip
def owriteNoS : PSpec := ⟨[gD, gi, gi], fun (d, a, k, _) => (some (a < 0 ∨ a ≥ 8), devR, [.arr (.int .i64) (owF d.1 a k)])⟩
theorem owriteNo_ok : Good Try.prog 67 owriteNoS.spec := by
  have hT := tab_ok (fs := [(98, ofitS.spec), (120, voiceNoS.spec), (122, putM.spec), (94, lowM.spec)]) tree_ok
  have hP : SpecsOk Try.prog (tab tree [(98, ofitS.spec), (120, voiceNoS.spec), (122, putM.spec), (94, lowM.spec)]) := specs_cons ofit_ok (specs_cons voiceNo_ok (specs_cons putM_ok (specs_cons lowM_ok specs_nil)))
  refine owriteNoS.good (fn := Try.f67) hT hP Try.func67 (by kernel_rfl) rfl fun (d : Dv) (a k : Int) hq => ?_
  have hp : a < 0 ∨ a ≥ 8 := hq _ rfl
  obtain ⟨N, M⟩ := d
  obtain ⟨h0, h1, h2, h3, h4, h5⟩ := oR N
  repeat' first
    | (refine Go.mk ?_; conv => whnf)
    | refine Need.go ?_ ?_
    | refine NilG.go (fun _ => ?_) (fun _ => ?_)
    | refine Br.dec (fun _ => ?_) (fun _ => ?_)
    | refine Br.go (fun _ => ?_) (fun _ => ?_)
    | refine draw_go hT hP mixed ?_
    | refine round_go hT hP ?_
  all_goals first
    | exact hp
    | contradiction
    | (refine .mk [] [2] _ rfl rfl rfl rfl rfl (blk_eqs (l := sndN N) ?_) rfl
       show _ = owF N a k
       unfold owF
       rw [if_neg (by omega), if_neg (by omega), if_neg (by omega), if_neg (by omega), if_neg (by omega), if_neg (by omega), if_neg (by omega), if_neg (by omega)])
    | skip
def owriteS : PSpec := ⟨[gD, gi, gi], fun (d, a, k, _) => (none, devR, [.arr (.int .i64) (owF d.1 a k)])⟩
def owrite8S : PSpec := ⟨[gD, gi, gi], fun (d, a, k, _) => (some (0 ≤ a ∧ a < 8), devR, [.arr (.int .i64) (owF d.1 a k)])⟩
theorem owrite8_ok : Good Try.prog 67 owrite8S.spec := Good.cases owriteLo_ok owriteHi_ok fun (d, a, k, _) hq => by
  have hp : 0 ≤ a ∧ a < 8 := hq _ rfl
  rcases Int.lt_or_le a 4 with h | h
  · exact .inl ⟨fun q hq => by cases hq; exact ⟨hp.1, h⟩, rfl⟩
  · exact .inr ⟨fun q hq => by cases hq; exact ⟨h, hp.2⟩, rfl⟩
theorem owrite_ok : Good Try.prog 67 owriteS.spec := Good.cases owrite8_ok owriteNo_ok fun (d, a, k, _) _ => by
  by_cases h : 0 ≤ a ∧ a < 8
  · exact .inl ⟨fun q hq => by cases hq; exact h, rfl⟩
  · exact .inr ⟨fun q hq => by cases hq; exact out8 a h, rfl⟩

def soundsS : PSpec := ⟨[], fun _ => (none, .cell (bv true), [])⟩
theorem sounds_ok : Good Try.prog 41 soundsS.spec := by
  have hT := tab_ok (fs := [(65, onewS.spec), (67, owriteS.spec), (68, ooutS.spec), (42, otickS.spec)]) tree_ok
  have hP : SpecsOk Try.prog (tab tree [(65, onewS.spec), (67, owriteS.spec), (68, ooutS.spec), (42, otickS.spec)]) := specs_cons onew_ok (specs_cons owrite_ok (specs_cons oout_ok (specs_cons otick_ok specs_nil)))
  refine soundsS.good (fn := Try.f41) hT hP Try.func41 (by kernel_rfl) rfl fun _ => ?_
  repeat' first
    | (refine Go.mk ?_; conv => whnf)
    | refine Need.go ?_ ?_
    | refine NilG.go (fun _ => ?_) (fun _ => ?_)
    | refine Br.dec (fun _ => ?_) (fun _ => ?_)
    | refine Br.go (fun _ => ?_) (fun _ => ?_)
    | refine draw_go hT hP mixed ?_
    | refine round_go hT hP ?_
  refine .mk [] [] _ rfl rfl rfl rfl rfl rfl (imm_bool ?_)
  show (ooutF (tickW (sndN (owF (owF (List.replicate 12 0) 0 1) 2 15))) == 15) = true
  decide +kernel

end Go.Proofs.Ythpijepbbpcjeaa
