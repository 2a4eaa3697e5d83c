/- The chip with two voices: many cycles, registers. -/
import Derived.Test.YthpijepbbpcjeaaSound
namespace Go.Proofs.Ythpijepbbpcjeaa
open Go.Fw
set_option linter.unusedVariables false
set_option linter.unusedSimpArgs false
set_option maxRecDepth 100000

def oskipS : PSpec := ⟨[gD, gi], fun (d, k, _) => (some (k ≤ 10000000), devR, [.arr (.int .i64) (iterF tickW k.toNat (sndN d.1))])⟩
theorem oskip_ok : Good Try.prog 43 oskipS.spec := by
  have hT := tab_ok (fs := [(98, ofitS.spec), (99, quietS.spec), (100, passS.spec)]) tree_ok
  have hP : SpecsOk Try.prog (tab tree [(98, ofitS.spec), (99, quietS.spec), (100, passS.spec)]) := specs_cons ofit_ok (specs_cons quiet_ok (specs_cons pass_ok specs_nil))
  refine oskipS.good (fn := Try.f43) hT hP Try.func43 (by kernel_rfl) rfl fun (d : Dv) (k : Int) hp => ?_
  obtain ⟨N, M⟩ := d
  have hk : k ≤ 10000000 := hp _ rfl
  have eK : imin k 10000000 = k := by rw [imin_eq]; omega
  obtain ⟨A, hA⟩ : ∃ A, A = iterF (passV 1) (imin k 10000000).toNat (vo N 0) := ⟨_, rfl⟩
  have hAo : vOk A := by rw [hA]; exact iterP_ok (vo_ok N 0) _
  repeat' first
    | (refine Go.mk ?_; conv => whnf)
    | refine Need.go ?_ ?_
    | refine NilG.go (fun _ => ?_) (fun _ => ?_)
    | refine Br.dec (fun _ => ?_) (fun _ => ?_)
    | refine Br.go (fun _ => ?_) (fun _ => ?_)
    | refine draw_go hT hP mixed ?_
    | refine round_go hT hP ?_
  refine loop_unroll 3 ?_
  repeat' first
    | (refine Go.mk ?_; conv => whnf)
    | refine Need.go ?_ ?_
    | refine NilG.go (fun _ => ?_) (fun _ => ?_)
    | refine Br.dec (fun _ => ?_) (fun _ => ?_)
    | refine Br.go (fun _ => ?_) (fun _ => ?_)
    | refine draw_go hT hP mixed ?_
    | refine round_go hT hP ?_
  all_goals first
    | exact of_decide_eq_true rfl
    | skip
  refine loop_go hT hP (X := Int × List Int) (fun (r, a) => St.mk [.dead, I (imin k 10000000), .dead, .dead, .cell (.ptr 0 0), .cell (.own 1), .dead, .cell (.sub 1 0 6), I r, .dead, .dead, .dead, .dead, .dead, I 0, .dead, .dead, .dead, .dead, .dead, .dead, .dead, .dead, .dead, .dead, .dead, .dead, .dead, .dead, .dead, .dead, .dead, .dead, .dead, .dead, .dead, .dead, .dead, .dead, .dead, .dead, .dead, .dead, .dead, .dead, .dead, .dead, .dead, .dead, .dead] [some (.var [.imm (.slice none 0 0), .imm (.slice none 0 0)]), some (.arr (.int .i64) (a ++ vo N 6))])
    (fun (r, a) => r ≤ imin k 10000000 ∧ vOk a ∧ iterF (passV 1) r.toNat a = iterF (passV 1) (imin k 10000000).toNat (vo N 0)) (fun (r, _) => r.toNat) (imin k 10000000, vo N 0) (Le.mk [] [1, 2] rfl rfl ?_ ?_) ?_ fun (r, a) hi => ?_
  rotate_right
  repeat' first
    | (refine Go.mk ?_; conv => whnf)
    | refine Need.go ?_ ?_
    | refine NilG.go (fun _ => ?_) (fun _ => ?_)
    | refine Br.dec (fun _ => ?_) (fun _ => ?_)
    | refine Br.go (fun _ => ?_) (fun _ => ?_)
    | refine draw_go hT hP mixed ?_
    | refine round_go hT hP ?_
  rotate_right 3
  · exact rfl
  · repeat' first | exact trivial | exact ⟨rfl, rfl⟩ | refine And.intro ?_ ?_
  · exact ⟨Int.le_refl _, vo_ok N 0, rfl⟩
  all_goals
    obtain ⟨hr, ha, hit⟩ := hi
    have hrk : r ≤ 10000000 := by rw [eK] at hr; omega
    have hq0 := quietV_in ha
    have e6 : (((a ++ vo N 6).drop 0).take 6) = a := fst6 ha.len
    have ep : ∀ q, passL 0 (a ++ vo N 6) q = passV q a ++ vo N 6 := fun q => passL_fst ha.len q
    have el : (a ++ vo N 6).length = 12 := by rw [List.length_append, ha.len]; rfl
    have ew : IntKind.i64.wrap (quietV a + 1) = quietV a + 1 := w64 (by omega) (by omega)
    have ew2 : r > 0 → IntKind.i64.wrap (r - (quietV a + 1)) = r - (quietV a + 1) := fun h => w64 (by omega) (by omega)
  all_goals first
    | exact of_decide_eq_true rfl
    | (show vOk (((a ++ vo N 6).drop 0).take 6)
       rw [e6]; exact ha)
    | skip
  · rename_i h0 h1
    have h0 : r > 0 := h0
    exact ⟨.inl rfl, ⟨a, vo N 6, rfl, ha, vo_ok N 6⟩, (by omega : 0 ≤ r), hrk⟩
  · show (0 : Int) ≤ 6 ∧ (6 : Int) ≤ 12 ∧ (12 : Int) ≤ ((passL 0 (a ++ vo N 6) r).length : Nat)
    rw [ep, List.length_append, passV_len, ha.len, show (vo N 6).length = 6 from rfl]; decide
  · rename_i h0 h1
    have h0 : r > 0 := h0
    have ee : passL 0 (a ++ vo N 6) r = A ++ vo N 6 := by rw [ep, voice_end ha h0 (.inl (by have h1 : quietV (((a ++ vo N 6).drop 0).take 6) ≥ r := h1; rw [e6] at h1; exact h1)), hit, hA]
    refine loop_go hT hP (X := Int × List Int) (fun (r, a) => St.mk [.dead, I (imin k 10000000), .dead, .dead, .cell (.ptr 0 0), .cell (.own 1), .dead, .cell (.sub 1 6 6), I r, .dead, .dead, .dead, .dead, .dead, I (IntKind.i64.wrap (0 + 1)), .dead, .dead, .dead, .dead, .dead, .dead, .dead, .dead, .dead, .dead, .dead, .dead, .dead, .dead, .dead, .dead, .dead, .dead, .dead, .dead, .dead, .dead, .dead, .dead, .dead, .dead, .dead, .dead, .dead, .dead, .dead, .dead, .dead, .dead, .dead] [some (.var [.imm (.slice none 0 0), .imm (.slice none 0 0)]), some (.arr (.int .i64) (A ++ a))])
      (fun (r, a) => r ≤ imin k 10000000 ∧ vOk a ∧ iterF (passV 1) r.toNat a = iterF (passV 1) (imin k 10000000).toNat (vo N 6)) (fun (r, _) => r.toNat) (imin k 10000000, vo N 6) (Le.mk [] [0, 1] rfl rfl ?_ ?_) ?_ fun (r, a) hi => ?_
    rotate_right
    repeat' first
      | (refine Go.mk ?_; conv => whnf)
      | refine Need.go ?_ ?_
      | refine NilG.go (fun _ => ?_) (fun _ => ?_)
      | refine Br.dec (fun _ => ?_) (fun _ => ?_)
      | refine Br.go (fun _ => ?_) (fun _ => ?_)
      | refine draw_go hT hP mixed ?_
      | refine round_go hT hP ?_
    rotate_right 3
    · exact heap2 ee
    · repeat' first | exact trivial | exact ⟨rfl, rfl⟩ | refine And.intro ?_ ?_
    · exact ⟨Int.le_refl _, vo_ok N 6, rfl⟩
    all_goals
      obtain ⟨hr, ha, hit⟩ := hi
      have hrk : r ≤ 10000000 := by rw [eK] at hr; omega
      have hq0 := quietV_in ha
      have e6 : (((A ++ a).drop 6).take 6) = a := snd6 hAo.len ha.len
      have ep : ∀ q, passL 6 (A ++ a) q = A ++ passV q a := fun q => passL_snd hAo.len ha.len q
      have el : (A ++ a).length = 12 := by rw [List.length_append, hAo.len, ha.len]
      have ew : IntKind.i64.wrap (quietV a + 1) = quietV a + 1 := w64 (by omega) (by omega)
      have ew2 : r > 0 → IntKind.i64.wrap (r - (quietV a + 1)) = r - (quietV a + 1) := fun h => w64 (by omega) (by omega)
    all_goals first
      | exact of_decide_eq_true rfl
      | (show vOk (((A ++ a).drop 6).take 6)
         rw [e6]; exact ha)
      | skip
    · rename_i h0 h1
      have h0 : r > 0 := h0
      exact ⟨.inr rfl, ⟨A, a, rfl, hAo, ha⟩, (by omega : 0 ≤ r), hrk⟩
    · rename_i h0 h1
      have h0 : r > 0 := h0
      refine .mk [] [1] _ rfl rfl rfl rfl rfl (blk_eqs (l := passL 6 (A ++ a) r) ?_) rfl
      show _ = iterF tickW k.toNat (sndN N)
      rw [ep, voice_end ha h0 (.inl (by have h1 : quietV (((A ++ a).drop 6).take 6) ≥ r := h1; rw [e6] at h1; exact h1)), hit, sndN, iterW (vo_ok N 0) (vo_ok N 6), hA, eK]
    · rename_i h0 h1 h2
      have h0 : r > 0 := h0
      exact ⟨.inr rfl, ⟨A, a, rfl, hAo, ha⟩, (by omega : 0 ≤ r), hrk⟩
    · rename_i h0 h1 h2
      have h0 : r > 0 := h0
      refine .mk [] [1] _ rfl rfl rfl rfl rfl (blk_eqs (l := passL 6 (A ++ a) r) ?_) rfl
      show _ = iterF tickW k.toNat (sndN N)
      rw [ep, voice_end ha h0 (.inr (by have h2 : quietV (((A ++ a).drop 6).take 6) = 100000 := h2; rw [e6] at h2; exact h2)), hit, sndN, iterW (vo_ok N 0) (vo_ok N 6), hA, eK]
    · rename_i h0 h1 h2
      have h0 : r > 0 := h0
      exact ⟨.inr rfl, ⟨A, a, rfl, hAo, ha⟩, (by rw [e6, ew]; omega : 0 ≤ IntKind.i64.wrap (quietV (((A ++ a).drop 6).take 6) + 1)), (by rw [e6, ew]; omega : IntKind.i64.wrap (quietV (((A ++ a).drop 6).take 6) + 1) ≤ 10000000)⟩
    · rename_i h0 h1 h2
      have h0 : r > 0 := h0
      have h1 : ¬ quietV (((A ++ a).drop 6).take 6) ≥ r := h1
      rw [e6] at h1
      have er : IntKind.i64.wrap (r - IntKind.i64.wrap (quietV (((A ++ a).drop 6).take 6) + 1)) = r - (quietV a + 1) := by rw [e6, ew, ew2 h0]
      have eb : passL 6 (A ++ a) (IntKind.i64.wrap (quietV (((A ++ a).drop 6).take 6) + 1)) = A ++ passV (quietV a + 1) a := by rw [e6, ew, ep]
      apply Exists.intro (_, passV (quietV a + 1) a)
      refine And.intro ?_ (And.intro ?_ (Le.mk [] [0, 1] rfl rfl (heap2 eb) ?ht))
      case ht => repeat' first | exact trivial | exact ⟨rfl, rfl⟩ | refine And.intro ?_ ?_
      · show IntKind.i64.wrap (r - IntKind.i64.wrap (quietV (((A ++ a).drop 6).take 6) + 1)) ≤ imin k 10000000 ∧ vOk (passV (quietV a + 1) a) ∧ iterF (passV 1) (IntKind.i64.wrap (r - IntKind.i64.wrap (quietV (((A ++ a).drop 6).take 6) + 1))).toNat (passV (quietV a + 1) a) = _
        rw [er, voice_step ha (by omega)]
        exact ⟨by omega, passV_ok ha (by omega), hit⟩
      · show (IntKind.i64.wrap (r - IntKind.i64.wrap (quietV (((A ++ a).drop 6).take 6) + 1))).toNat < r.toNat
        rw [er]; omega
    · rename_i h0
      have h0 : ¬ r > 0 := h0
      refine .mk [] [1] _ rfl rfl rfl rfl rfl (blk_eqs (l := A ++ a) ?_) rfl
      show _ = iterF tickW k.toNat (sndN N)
      have e0 : r.toNat = 0 := by omega
      rw [e0] at hit
      have hit : a = _ := hit
      rw [hit, sndN, iterW (vo_ok N 0) (vo_ok N 6), hA, eK]
  · rename_i h0 h1 h2
    have h0 : r > 0 := h0
    exact ⟨.inl rfl, ⟨a, vo N 6, rfl, ha, vo_ok N 6⟩, (by omega : 0 ≤ r), hrk⟩
  · show (0 : Int) ≤ 6 ∧ (6 : Int) ≤ 12 ∧ (12 : Int) ≤ ((passL 0 (a ++ vo N 6) r).length : Nat)
    rw [ep, List.length_append, passV_len, ha.len, show (vo N 6).length = 6 from rfl]; decide
  · rename_i h0 h1 h2
    have h0 : r > 0 := h0
    have ee : passL 0 (a ++ vo N 6) r = A ++ vo N 6 := by rw [ep, voice_end ha h0 (.inr (by have h2 : quietV (((a ++ vo N 6).drop 0).take 6) = 100000 := h2; rw [e6] at h2; exact h2)), hit, hA]
    refine loop_go hT hP (X := Int × List Int) (fun (r, a) => St.mk [.dead, I (imin k 10000000), .dead, .dead, .cell (.ptr 0 0), .cell (.own 1), .dead, .cell (.sub 1 6 6), I r, .dead, .dead, .dead, .dead, .dead, I (IntKind.i64.wrap (0 + 1)), .dead, .dead, .dead, .dead, .dead, .dead, .dead, .dead, .dead, .dead, .dead, .dead, .dead, .dead, .dead, .dead, .dead, .dead, .dead, .dead, .dead, .dead, .dead, .dead, .dead, .dead, .dead, .dead, .dead, .dead, .dead, .dead, .dead, .dead, .dead] [some (.var [.imm (.slice none 0 0), .imm (.slice none 0 0)]), some (.arr (.int .i64) (A ++ a))])
      (fun (r, a) => r ≤ imin k 10000000 ∧ vOk a ∧ iterF (passV 1) r.toNat a = iterF (passV 1) (imin k 10000000).toNat (vo N 6)) (fun (r, _) => r.toNat) (imin k 10000000, vo N 6) (Le.mk [] [0, 1] rfl rfl ?_ ?_) ?_ fun (r, a) hi => ?_
    rotate_right
    repeat' first
      | (refine Go.mk ?_; conv => whnf)
      | refine Need.go ?_ ?_
      | refine NilG.go (fun _ => ?_) (fun _ => ?_)
      | refine Br.dec (fun _ => ?_) (fun _ => ?_)
      | refine Br.go (fun _ => ?_) (fun _ => ?_)
      | refine draw_go hT hP mixed ?_
      | refine round_go hT hP ?_
    rotate_right 3
    · exact heap2 ee
    · repeat' first | exact trivial | exact ⟨rfl, rfl⟩ | refine And.intro ?_ ?_
    · exact ⟨Int.le_refl _, vo_ok N 6, rfl⟩
    all_goals
      obtain ⟨hr, ha, hit⟩ := hi
      have hrk : r ≤ 10000000 := by rw [eK] at hr; omega
      have hq0 := quietV_in ha
      have e6 : (((A ++ a).drop 6).take 6) = a := snd6 hAo.len ha.len
      have ep : ∀ q, passL 6 (A ++ a) q = A ++ passV q a := fun q => passL_snd hAo.len ha.len q
      have el : (A ++ a).length = 12 := by rw [List.length_append, hAo.len, ha.len]
      have ew : IntKind.i64.wrap (quietV a + 1) = quietV a + 1 := w64 (by omega) (by omega)
      have ew2 : r > 0 → IntKind.i64.wrap (r - (quietV a + 1)) = r - (quietV a + 1) := fun h => w64 (by omega) (by omega)
    all_goals first
      | exact of_decide_eq_true rfl
      | (show vOk (((A ++ a).drop 6).take 6)
         rw [e6]; exact ha)
      | skip
    · rename_i h0 h1
      have h0 : r > 0 := h0
      exact ⟨.inr rfl, ⟨A, a, rfl, hAo, ha⟩, (by omega : 0 ≤ r), hrk⟩
    · rename_i h0 h1
      have h0 : r > 0 := h0
      refine .mk [] [1] _ rfl rfl rfl rfl rfl (blk_eqs (l := passL 6 (A ++ a) r) ?_) rfl
      show _ = iterF tickW k.toNat (sndN N)
      rw [ep, voice_end ha h0 (.inl (by have h1 : quietV (((A ++ a).drop 6).take 6) ≥ r := h1; rw [e6] at h1; exact h1)), hit, sndN, iterW (vo_ok N 0) (vo_ok N 6), hA, eK]
    · rename_i h0 h1 h2
      have h0 : r > 0 := h0
      exact ⟨.inr rfl, ⟨A, a, rfl, hAo, ha⟩, (by omega : 0 ≤ r), hrk⟩
    · rename_i h0 h1 h2
      have h0 : r > 0 := h0
      refine .mk [] [1] _ rfl rfl rfl rfl rfl (blk_eqs (l := passL 6 (A ++ a) r) ?_) rfl
      show _ = iterF tickW k.toNat (sndN N)
      rw [ep, voice_end ha h0 (.inr (by have h2 : quietV (((A ++ a).drop 6).take 6) = 100000 := h2; rw [e6] at h2; exact h2)), hit, sndN, iterW (vo_ok N 0) (vo_ok N 6), hA, eK]
    · rename_i h0 h1 h2
      have h0 : r > 0 := h0
      exact ⟨.inr rfl, ⟨A, a, rfl, hAo, ha⟩, (by rw [e6, ew]; omega : 0 ≤ IntKind.i64.wrap (quietV (((A ++ a).drop 6).take 6) + 1)), (by rw [e6, ew]; omega : IntKind.i64.wrap (quietV (((A ++ a).drop 6).take 6) + 1) ≤ 10000000)⟩
    · rename_i h0 h1 h2
      have h0 : r > 0 := h0
      have h1 : ¬ quietV (((A ++ a).drop 6).take 6) ≥ r := h1
      rw [e6] at h1
      have er : IntKind.i64.wrap (r - IntKind.i64.wrap (quietV (((A ++ a).drop 6).take 6) + 1)) = r - (quietV a + 1) := by rw [e6, ew, ew2 h0]
      have eb : passL 6 (A ++ a) (IntKind.i64.wrap (quietV (((A ++ a).drop 6).take 6) + 1)) = A ++ passV (quietV a + 1) a := by rw [e6, ew, ep]
      apply Exists.intro (_, passV (quietV a + 1) a)
      refine And.intro ?_ (And.intro ?_ (Le.mk [] [0, 1] rfl rfl (heap2 eb) ?ht))
      case ht => repeat' first | exact trivial | exact ⟨rfl, rfl⟩ | refine And.intro ?_ ?_
      · show IntKind.i64.wrap (r - IntKind.i64.wrap (quietV (((A ++ a).drop 6).take 6) + 1)) ≤ imin k 10000000 ∧ vOk (passV (quietV a + 1) a) ∧ iterF (passV 1) (IntKind.i64.wrap (r - IntKind.i64.wrap (quietV (((A ++ a).drop 6).take 6) + 1))).toNat (passV (quietV a + 1) a) = _
        rw [er, voice_step ha (by omega)]
        exact ⟨by omega, passV_ok ha (by omega), hit⟩
      · show (IntKind.i64.wrap (r - IntKind.i64.wrap (quietV (((A ++ a).drop 6).take 6) + 1))).toNat < r.toNat
        rw [er]; omega
    · rename_i h0
      have h0 : ¬ r > 0 := h0
      refine .mk [] [1] _ rfl rfl rfl rfl rfl (blk_eqs (l := A ++ a) ?_) rfl
      show _ = iterF tickW k.toNat (sndN N)
      have e0 : r.toNat = 0 := by omega
      rw [e0] at hit
      have hit : a = _ := hit
      rw [hit, sndN, iterW (vo_ok N 0) (vo_ok N 6), hA, eK]
  · rename_i h0 h1 h2
    have h0 : r > 0 := h0
    exact ⟨.inl rfl, ⟨a, vo N 6, rfl, ha, vo_ok N 6⟩, (by rw [e6, ew]; omega : 0 ≤ IntKind.i64.wrap (quietV (((a ++ vo N 6).drop 0).take 6) + 1)), (by rw [e6, ew]; omega : IntKind.i64.wrap (quietV (((a ++ vo N 6).drop 0).take 6) + 1) ≤ 10000000)⟩
  · rename_i h0 h1 h2
    have h0 : r > 0 := h0
    have h1 : ¬ quietV (((a ++ vo N 6).drop 0).take 6) ≥ r := h1
    rw [e6] at h1
    have er : IntKind.i64.wrap (r - IntKind.i64.wrap (quietV (((a ++ vo N 6).drop 0).take 6) + 1)) = r - (quietV a + 1) := by rw [e6, ew, ew2 h0]
    have eb : passL 0 (a ++ vo N 6) (IntKind.i64.wrap (quietV (((a ++ vo N 6).drop 0).take 6) + 1)) = passV (quietV a + 1) a ++ vo N 6 := by rw [e6, ew, ep]
    apply Exists.intro (_, passV (quietV a + 1) a)
    refine And.intro ?_ (And.intro ?_ (Le.mk [] [0, 1] rfl rfl (heap2 eb) ?ht))
    case ht => repeat' first | exact trivial | exact ⟨rfl, rfl⟩ | refine And.intro ?_ ?_
    · show IntKind.i64.wrap (r - IntKind.i64.wrap (quietV (((a ++ vo N 6).drop 0).take 6) + 1)) ≤ imin k 10000000 ∧ vOk (passV (quietV a + 1) a) ∧ iterF (passV 1) (IntKind.i64.wrap (r - IntKind.i64.wrap (quietV (((a ++ vo N 6).drop 0).take 6) + 1))).toNat (passV (quietV a + 1) a) = _
      rw [er, voice_step ha (by omega)]
      exact ⟨by omega, passV_ok ha (by omega), hit⟩
    · show (IntKind.i64.wrap (r - IntKind.i64.wrap (quietV (((a ++ vo N 6).drop 0).take 6) + 1))).toNat < r.toNat
      rw [er]; omega
  · show (0 : Int) ≤ 6 ∧ (6 : Int) ≤ 12 ∧ (12 : Int) ≤ ((a ++ vo N 6).length : Nat)
    rw [el]; decide
  · rename_i h0
    have h0 : ¬ r > 0 := h0
    have ee : a ++ vo N 6 = A ++ vo N 6 := by
      have e0 : r.toNat = 0 := by omega
      rw [e0] at hit
      rw [hA, ← hit]; rfl
    refine loop_go hT hP (X := Int × List Int) (fun (r, a) => St.mk [.dead, I (imin k 10000000), .dead, .dead, .cell (.ptr 0 0), .cell (.own 1), .dead, .cell (.sub 1 6 6), I r, .dead, .dead, .dead, .dead, .dead, I (IntKind.i64.wrap (0 + 1)), .dead, .dead, .dead, .dead, .dead, .dead, .dead, .dead, .dead, .dead, .dead, .dead, .dead, .dead, .dead, .dead, .dead, .dead, .dead, .dead, .dead, .dead, .dead, .dead, .dead, .dead, .dead, .dead, .dead, .dead, .dead, .dead, .dead, .dead, .dead] [some (.var [.imm (.slice none 0 0), .imm (.slice none 0 0)]), some (.arr (.int .i64) (A ++ a))])
      (fun (r, a) => r ≤ imin k 10000000 ∧ vOk a ∧ iterF (passV 1) r.toNat a = iterF (passV 1) (imin k 10000000).toNat (vo N 6)) (fun (r, _) => r.toNat) (imin k 10000000, vo N 6) (Le.mk [] [0, 1] rfl rfl ?_ ?_) ?_ fun (r, a) hi => ?_
    rotate_right
    repeat' first
      | (refine Go.mk ?_; conv => whnf)
      | refine Need.go ?_ ?_
      | refine NilG.go (fun _ => ?_) (fun _ => ?_)
      | refine Br.dec (fun _ => ?_) (fun _ => ?_)
      | refine Br.go (fun _ => ?_) (fun _ => ?_)
      | refine draw_go hT hP mixed ?_
      | refine round_go hT hP ?_
    rotate_right 3
    · exact heap2 ee
    · repeat' first | exact trivial | exact ⟨rfl, rfl⟩ | refine And.intro ?_ ?_
    · exact ⟨Int.le_refl _, vo_ok N 6, rfl⟩
    all_goals
      obtain ⟨hr, ha, hit⟩ := hi
      have hrk : r ≤ 10000000 := by rw [eK] at hr; omega
      have hq0 := quietV_in ha
      have e6 : (((A ++ a).drop 6).take 6) = a := snd6 hAo.len ha.len
      have ep : ∀ q, passL 6 (A ++ a) q = A ++ passV q a := fun q => passL_snd hAo.len ha.len q
      have el : (A ++ a).length = 12 := by rw [List.length_append, hAo.len, ha.len]
      have ew : IntKind.i64.wrap (quietV a + 1) = quietV a + 1 := w64 (by omega) (by omega)
      have ew2 : r > 0 → IntKind.i64.wrap (r - (quietV a + 1)) = r - (quietV a + 1) := fun h => w64 (by omega) (by omega)
    all_goals first
      | exact of_decide_eq_true rfl
      | (show vOk (((A ++ a).drop 6).take 6)
         rw [e6]; exact ha)
      | skip
    · rename_i h0 h1
      have h0 : r > 0 := h0
      exact ⟨.inr rfl, ⟨A, a, rfl, hAo, ha⟩, (by omega : 0 ≤ r), hrk⟩
    · rename_i h0 h1
      have h0 : r > 0 := h0
      refine .mk [] [1] _ rfl rfl rfl rfl rfl (blk_eqs (l := passL 6 (A ++ a) r) ?_) rfl
      show _ = iterF tickW k.toNat (sndN N)
      rw [ep, voice_end ha h0 (.inl (by have h1 : quietV (((A ++ a).drop 6).take 6) ≥ r := h1; rw [e6] at h1; exact h1)), hit, sndN, iterW (vo_ok N 0) (vo_ok N 6), hA, eK]
    · rename_i h0 h1 h2
      have h0 : r > 0 := h0
      exact ⟨.inr rfl, ⟨A, a, rfl, hAo, ha⟩, (by omega : 0 ≤ r), hrk⟩
    · rename_i h0 h1 h2
      have h0 : r > 0 := h0
      refine .mk [] [1] _ rfl rfl rfl rfl rfl (blk_eqs (l := passL 6 (A ++ a) r) ?_) rfl
      show _ = iterF tickW k.toNat (sndN N)
      rw [ep, voice_end ha h0 (.inr (by have h2 : quietV (((A ++ a).drop 6).take 6) = 100000 := h2; rw [e6] at h2; exact h2)), hit, sndN, iterW (vo_ok N 0) (vo_ok N 6), hA, eK]
    · rename_i h0 h1 h2
      have h0 : r > 0 := h0
      exact ⟨.inr rfl, ⟨A, a, rfl, hAo, ha⟩, (by rw [e6, ew]; omega : 0 ≤ IntKind.i64.wrap (quietV (((A ++ a).drop 6).take 6) + 1)), (by rw [e6, ew]; omega : IntKind.i64.wrap (quietV (((A ++ a).drop 6).take 6) + 1) ≤ 10000000)⟩
    · rename_i h0 h1 h2
      have h0 : r > 0 := h0
      have h1 : ¬ quietV (((A ++ a).drop 6).take 6) ≥ r := h1
      rw [e6] at h1
      have er : IntKind.i64.wrap (r - IntKind.i64.wrap (quietV (((A ++ a).drop 6).take 6) + 1)) = r - (quietV a + 1) := by rw [e6, ew, ew2 h0]
      have eb : passL 6 (A ++ a) (IntKind.i64.wrap (quietV (((A ++ a).drop 6).take 6) + 1)) = A ++ passV (quietV a + 1) a := by rw [e6, ew, ep]
      apply Exists.intro (_, passV (quietV a + 1) a)
      refine And.intro ?_ (And.intro ?_ (Le.mk [] [0, 1] rfl rfl (heap2 eb) ?ht))
      case ht => repeat' first | exact trivial | exact ⟨rfl, rfl⟩ | refine And.intro ?_ ?_
      · show IntKind.i64.wrap (r - IntKind.i64.wrap (quietV (((A ++ a).drop 6).take 6) + 1)) ≤ imin k 10000000 ∧ vOk (passV (quietV a + 1) a) ∧ iterF (passV 1) (IntKind.i64.wrap (r - IntKind.i64.wrap (quietV (((A ++ a).drop 6).take 6) + 1))).toNat (passV (quietV a + 1) a) = _
        rw [er, voice_step ha (by omega)]
        exact ⟨by omega, passV_ok ha (by omega), hit⟩
      · show (IntKind.i64.wrap (r - IntKind.i64.wrap (quietV (((A ++ a).drop 6).take 6) + 1))).toNat < r.toNat
        rw [er]; omega
    · rename_i h0
      have h0 : ¬ r > 0 := h0
      refine .mk [] [1] _ rfl rfl rfl rfl rfl (blk_eqs (l := A ++ a) ?_) rfl
      show _ = iterF tickW k.toNat (sndN N)
      have e0 : r.toNat = 0 := by omega
      rw [e0] at hit
      have hit : a = _ := hit
      rw [hit, sndN, iterW (vo_ok N 0) (vo_ok N 6), hA, eK]

end Go.Proofs.Ythpijepbbpcjeaa
