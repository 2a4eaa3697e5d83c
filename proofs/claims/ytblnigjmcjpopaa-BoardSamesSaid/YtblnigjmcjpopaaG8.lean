/- Part 8 of the proof: Sound2 Sound3 Sound4 Sound5 Core Name Byte Tables RefLaw PinLaw Pin. No statement is handed in here; conditions: none. -/
import Derived.Test.YtblnigjmcjpopaaG7
import Derived.Test.YtblnigjmcjpopaaG6
import Derived.WalkKit
import Derived.Lib.Walk
import Derived.Lib.Bytealg
import Derived.Laws.Bits64
/- The chip with two voices: many cycles, registers. -/
namespace Go.Proofs.Ytblnigjmcjpopaa
open Go.Fw
set_option linter.unusedVariables false
set_option linter.unusedSimpArgs false
set_option maxRecDepth 100000

def oskipS : PSpec := ⟨[gD, gi], fun (d, k, _) => (some (k ≤ 10000000), devR, [.arr (.int .i64) (iterF tickW k.toNat (sndN d.1))])⟩
theorem oskip_ok : GoodF Try.prog 126 oskipS.spec := by
  have hT := tab_ok (fs := [(174, ofitS.spec), (175, quietS.spec), (176, passS.spec)]) tree_ok
  have hP : SpecsOk Try.prog (tab tree [(174, ofitS.spec), (175, quietS.spec), (176, passS.spec)]) := specs_cons ofit_ok (specs_cons quiet_ok (specs_cons pass_ok specs_nil))
  refine oskipS.good (fn := Try.f126) hT hP Try.func126 (by kernel_rfl) rfl fun (d : Dv) (k : Int) hp => ?_
  obtain ⟨N, M⟩ := d
  have hk : k ≤ 10000000 := hp _ rfl
  have eK : imin k 10000000 = k := by rw [imin_eq]; omega
  obtain ⟨A, hA⟩ : ∃ A, A = iterF (passV 1) (imin k 10000000).toNat (vo N 0) := ⟨_, rfl⟩
  have hAo : vOk A := by rw [hA]; exact iterP_ok (vo_ok N 0) _
  repeat' first
    | (refine Go.mk ?_; conv => whnf)
    | refine Need.go ?_ ?_
    | refine NilG.go (fun _ => ?_) (fun _ => ?_)
    | refine Br.dec (fun _ => ?_) (fun _ => ?_)
    | refine Br.go (fun _ => ?_) (fun _ => ?_)
    | refine draw_go hT hP mixed ?_
    | refine round_go hT hP ?_
  refine loop_unroll 3 ?_
  repeat' first
    | (refine Go.mk ?_; conv => whnf)
    | refine Need.go ?_ ?_
    | refine NilG.go (fun _ => ?_) (fun _ => ?_)
    | refine Br.dec (fun _ => ?_) (fun _ => ?_)
    | refine Br.go (fun _ => ?_) (fun _ => ?_)
    | refine draw_go hT hP mixed ?_
    | refine round_go hT hP ?_
  all_goals first
    | exact of_decide_eq_true rfl
    | skip
  refine loop_go hT hP (X := Int × List Int) (fun (r, a) => St.mk [.dead, I (imin k 10000000), .dead, .dead, .cell (.ptr 0 0), .cell (.own 1), .dead, .cell (.sub 1 0 6), I r, .dead, .dead, .dead, .dead, .dead, I 0, .dead, .dead, .dead, .dead, .dead, .dead, .dead, .dead, .dead, .dead, .dead, .dead, .dead, .dead, .dead, .dead, .dead, .dead, .dead, .dead, .dead, .dead, .dead, .dead, .dead, .dead, .dead, .dead, .dead, .dead, .dead, .dead, .dead, .dead, .dead] [some (.var [.imm (.slice none 0 0), .imm (.slice none 0 0)]), some (.arr (.int .i64) (a ++ vo N 6))])
    (fun (r, a) => r ≤ imin k 10000000 ∧ vOk a ∧ iterF (passV 1) r.toNat a = iterF (passV 1) (imin k 10000000).toNat (vo N 0)) (fun (r, _) => r.toNat) (imin k 10000000, vo N 0) (Le.mk [] [1, 2] rfl rfl ?_ ?_) ?_ fun (r, a) hi => ?_
  rotate_right
  repeat' first
    | (refine Go.mk ?_; conv => whnf)
    | refine Need.go ?_ ?_
    | refine NilG.go (fun _ => ?_) (fun _ => ?_)
    | refine Br.dec (fun _ => ?_) (fun _ => ?_)
    | refine Br.go (fun _ => ?_) (fun _ => ?_)
    | refine draw_go hT hP mixed ?_
    | refine round_go hT hP ?_
  rotate_right 3
  · exact rfl
  · repeat' first | exact trivial | exact ⟨rfl, rfl⟩ | refine And.intro ?_ ?_
  · exact ⟨Int.le_refl _, vo_ok N 0, rfl⟩
  all_goals
    obtain ⟨hr, ha, hit⟩ := hi
    have hrk : r ≤ 10000000 := by rw [eK] at hr; omega
    have hq0 := quietV_in ha
    have e6 : (((a ++ vo N 6).drop 0).take 6) = a := fst6 ha.len
    have ep : ∀ q, passL 0 (a ++ vo N 6) q = passV q a ++ vo N 6 := fun q => passL_fst ha.len q
    have el : (a ++ vo N 6).length = 12 := by rw [List.length_append, ha.len]; rfl
    have ew : IntKind.i64.wrap (quietV a + 1) = quietV a + 1 := w64 (by omega) (by omega)
    have ew2 : r > 0 → IntKind.i64.wrap (r - (quietV a + 1)) = r - (quietV a + 1) := fun h => w64 (by omega) (by omega)
  all_goals first
    | exact of_decide_eq_true rfl
    | (show vOk (((a ++ vo N 6).drop 0).take 6)
       rw [e6]; exact ha)
    | skip
  · rename_i h0 h1
    have h0 : r > 0 := h0
    exact ⟨.inl rfl, ⟨a, vo N 6, rfl, ha, vo_ok N 6⟩, (by omega : 0 ≤ r), hrk⟩
  · show (0 : Int) ≤ 6 ∧ (6 : Int) ≤ 12 ∧ (12 : Int) ≤ ((passL 0 (a ++ vo N 6) r).length : Nat)
    rw [ep, List.length_append, passV_len, ha.len, show (vo N 6).length = 6 from rfl]; decide
  · rename_i h0 h1
    have h0 : r > 0 := h0
    have ee : passL 0 (a ++ vo N 6) r = A ++ vo N 6 := by rw [ep, voice_end ha h0 (.inl (by have h1 : quietV (((a ++ vo N 6).drop 0).take 6) ≥ r := h1; rw [e6] at h1; exact h1)), hit, hA]
    refine loop_go hT hP (X := Int × List Int) (fun (r, a) => St.mk [.dead, I (imin k 10000000), .dead, .dead, .cell (.ptr 0 0), .cell (.own 1), .dead, .cell (.sub 1 6 6), I r, .dead, .dead, .dead, .dead, .dead, I (IntKind.i64.wrap (0 + 1)), .dead, .dead, .dead, .dead, .dead, .dead, .dead, .dead, .dead, .dead, .dead, .dead, .dead, .dead, .dead, .dead, .dead, .dead, .dead, .dead, .dead, .dead, .dead, .dead, .dead, .dead, .dead, .dead, .dead, .dead, .dead, .dead, .dead, .dead, .dead] [some (.var [.imm (.slice none 0 0), .imm (.slice none 0 0)]), some (.arr (.int .i64) (A ++ a))])
      (fun (r, a) => r ≤ imin k 10000000 ∧ vOk a ∧ iterF (passV 1) r.toNat a = iterF (passV 1) (imin k 10000000).toNat (vo N 6)) (fun (r, _) => r.toNat) (imin k 10000000, vo N 6) (Le.mk [] [0, 1] rfl rfl ?_ ?_) ?_ fun (r, a) hi => ?_
    rotate_right
    repeat' first
      | (refine Go.mk ?_; conv => whnf)
      | refine Need.go ?_ ?_
      | refine NilG.go (fun _ => ?_) (fun _ => ?_)
      | refine Br.dec (fun _ => ?_) (fun _ => ?_)
      | refine Br.go (fun _ => ?_) (fun _ => ?_)
      | refine draw_go hT hP mixed ?_
      | refine round_go hT hP ?_
    rotate_right 3
    · exact heap2 ee
    · repeat' first | exact trivial | exact ⟨rfl, rfl⟩ | refine And.intro ?_ ?_
    · exact ⟨Int.le_refl _, vo_ok N 6, rfl⟩
    all_goals
      obtain ⟨hr, ha, hit⟩ := hi
      have hrk : r ≤ 10000000 := by rw [eK] at hr; omega
      have hq0 := quietV_in ha
      have e6 : (((A ++ a).drop 6).take 6) = a := snd6 hAo.len ha.len
      have ep : ∀ q, passL 6 (A ++ a) q = A ++ passV q a := fun q => passL_snd hAo.len ha.len q
      have el : (A ++ a).length = 12 := by rw [List.length_append, hAo.len, ha.len]
      have ew : IntKind.i64.wrap (quietV a + 1) = quietV a + 1 := w64 (by omega) (by omega)
      have ew2 : r > 0 → IntKind.i64.wrap (r - (quietV a + 1)) = r - (quietV a + 1) := fun h => w64 (by omega) (by omega)
    all_goals first
      | exact of_decide_eq_true rfl
      | (show vOk (((A ++ a).drop 6).take 6)
         rw [e6]; exact ha)
      | skip
    · rename_i h0 h1
      have h0 : r > 0 := h0
      exact ⟨.inr rfl, ⟨A, a, rfl, hAo, ha⟩, (by omega : 0 ≤ r), hrk⟩
    · rename_i h0 h1
      have h0 : r > 0 := h0
      refine .mk [] [1] _ rfl rfl rfl rfl rfl (blk_eqs (l := passL 6 (A ++ a) r) ?_) rfl
      show _ = iterF tickW k.toNat (sndN N)
      rw [ep, voice_end ha h0 (.inl (by have h1 : quietV (((A ++ a).drop 6).take 6) ≥ r := h1; rw [e6] at h1; exact h1)), hit, sndN, iterW (vo_ok N 0) (vo_ok N 6), hA, eK]
    · rename_i h0 h1 h2
      have h0 : r > 0 := h0
      exact ⟨.inr rfl, ⟨A, a, rfl, hAo, ha⟩, (by omega : 0 ≤ r), hrk⟩
    · rename_i h0 h1 h2
      have h0 : r > 0 := h0
      refine .mk [] [1] _ rfl rfl rfl rfl rfl (blk_eqs (l := passL 6 (A ++ a) r) ?_) rfl
      show _ = iterF tickW k.toNat (sndN N)
      rw [ep, voice_end ha h0 (.inr (by have h2 : quietV (((A ++ a).drop 6).take 6) = 100000 := h2; rw [e6] at h2; exact h2)), hit, sndN, iterW (vo_ok N 0) (vo_ok N 6), hA, eK]
    · rename_i h0 h1 h2
      have h0 : r > 0 := h0
      exact ⟨.inr rfl, ⟨A, a, rfl, hAo, ha⟩, (by rw [e6, ew]; omega : 0 ≤ IntKind.i64.wrap (quietV (((A ++ a).drop 6).take 6) + 1)), (by rw [e6, ew]; omega : IntKind.i64.wrap (quietV (((A ++ a).drop 6).take 6) + 1) ≤ 10000000)⟩
    · rename_i h0 h1 h2
      have h0 : r > 0 := h0
      have h1 : ¬ quietV (((A ++ a).drop 6).take 6) ≥ r := h1
      rw [e6] at h1
      have er : IntKind.i64.wrap (r - IntKind.i64.wrap (quietV (((A ++ a).drop 6).take 6) + 1)) = r - (quietV a + 1) := by rw [e6, ew, ew2 h0]
      have eb : passL 6 (A ++ a) (IntKind.i64.wrap (quietV (((A ++ a).drop 6).take 6) + 1)) = A ++ passV (quietV a + 1) a := by rw [e6, ew, ep]
      apply Exists.intro (_, passV (quietV a + 1) a)
      refine And.intro ?_ (And.intro ?_ (Le.mk [] [0, 1] rfl rfl (heap2 eb) ?ht))
      case ht => repeat' first | exact trivial | exact ⟨rfl, rfl⟩ | refine And.intro ?_ ?_
      · show IntKind.i64.wrap (r - IntKind.i64.wrap (quietV (((A ++ a).drop 6).take 6) + 1)) ≤ imin k 10000000 ∧ vOk (passV (quietV a + 1) a) ∧ iterF (passV 1) (IntKind.i64.wrap (r - IntKind.i64.wrap (quietV (((A ++ a).drop 6).take 6) + 1))).toNat (passV (quietV a + 1) a) = _
        rw [er, voice_step ha (by omega)]
        exact ⟨by omega, passV_ok ha (by omega), hit⟩
      · show (IntKind.i64.wrap (r - IntKind.i64.wrap (quietV (((A ++ a).drop 6).take 6) + 1))).toNat < r.toNat
        rw [er]; omega
    · rename_i h0
      have h0 : ¬ r > 0 := h0
      refine .mk [] [1] _ rfl rfl rfl rfl rfl (blk_eqs (l := A ++ a) ?_) rfl
      show _ = iterF tickW k.toNat (sndN N)
      have e0 : r.toNat = 0 := by omega
      rw [e0] at hit
      have hit : a = _ := hit
      rw [hit, sndN, iterW (vo_ok N 0) (vo_ok N 6), hA, eK]
  · rename_i h0 h1 h2
    have h0 : r > 0 := h0
    exact ⟨.inl rfl, ⟨a, vo N 6, rfl, ha, vo_ok N 6⟩, (by omega : 0 ≤ r), hrk⟩
  · show (0 : Int) ≤ 6 ∧ (6 : Int) ≤ 12 ∧ (12 : Int) ≤ ((passL 0 (a ++ vo N 6) r).length : Nat)
    rw [ep, List.length_append, passV_len, ha.len, show (vo N 6).length = 6 from rfl]; decide
  · rename_i h0 h1 h2
    have h0 : r > 0 := h0
    have ee : passL 0 (a ++ vo N 6) r = A ++ vo N 6 := by rw [ep, voice_end ha h0 (.inr (by have h2 : quietV (((a ++ vo N 6).drop 0).take 6) = 100000 := h2; rw [e6] at h2; exact h2)), hit, hA]
    refine loop_go hT hP (X := Int × List Int) (fun (r, a) => St.mk [.dead, I (imin k 10000000), .dead, .dead, .cell (.ptr 0 0), .cell (.own 1), .dead, .cell (.sub 1 6 6), I r, .dead, .dead, .dead, .dead, .dead, I (IntKind.i64.wrap (0 + 1)), .dead, .dead, .dead, .dead, .dead, .dead, .dead, .dead, .dead, .dead, .dead, .dead, .dead, .dead, .dead, .dead, .dead, .dead, .dead, .dead, .dead, .dead, .dead, .dead, .dead, .dead, .dead, .dead, .dead, .dead, .dead, .dead, .dead, .dead, .dead] [some (.var [.imm (.slice none 0 0), .imm (.slice none 0 0)]), some (.arr (.int .i64) (A ++ a))])
      (fun (r, a) => r ≤ imin k 10000000 ∧ vOk a ∧ iterF (passV 1) r.toNat a = iterF (passV 1) (imin k 10000000).toNat (vo N 6)) (fun (r, _) => r.toNat) (imin k 10000000, vo N 6) (Le.mk [] [0, 1] rfl rfl ?_ ?_) ?_ fun (r, a) hi => ?_
    rotate_right
    repeat' first
      | (refine Go.mk ?_; conv => whnf)
      | refine Need.go ?_ ?_
      | refine NilG.go (fun _ => ?_) (fun _ => ?_)
      | refine Br.dec (fun _ => ?_) (fun _ => ?_)
      | refine Br.go (fun _ => ?_) (fun _ => ?_)
      | refine draw_go hT hP mixed ?_
      | refine round_go hT hP ?_
    rotate_right 3
    · exact heap2 ee
    · repeat' first | exact trivial | exact ⟨rfl, rfl⟩ | refine And.intro ?_ ?_
    · exact ⟨Int.le_refl _, vo_ok N 6, rfl⟩
    all_goals
      obtain ⟨hr, ha, hit⟩ := hi
      have hrk : r ≤ 10000000 := by rw [eK] at hr; omega
      have hq0 := quietV_in ha
      have e6 : (((A ++ a).drop 6).take 6) = a := snd6 hAo.len ha.len
      have ep : ∀ q, passL 6 (A ++ a) q = A ++ passV q a := fun q => passL_snd hAo.len ha.len q
      have el : (A ++ a).length = 12 := by rw [List.length_append, hAo.len, ha.len]
      have ew : IntKind.i64.wrap (quietV a + 1) = quietV a + 1 := w64 (by omega) (by omega)
      have ew2 : r > 0 → IntKind.i64.wrap (r - (quietV a + 1)) = r - (quietV a + 1) := fun h => w64 (by omega) (by omega)
    all_goals first
      | exact of_decide_eq_true rfl
      | (show vOk (((A ++ a).drop 6).take 6)
         rw [e6]; exact ha)
      | skip
    · rename_i h0 h1
      have h0 : r > 0 := h0
      exact ⟨.inr rfl, ⟨A, a, rfl, hAo, ha⟩, (by omega : 0 ≤ r), hrk⟩
    · rename_i h0 h1
      have h0 : r > 0 := h0
      refine .mk [] [1] _ rfl rfl rfl rfl rfl (blk_eqs (l := passL 6 (A ++ a) r) ?_) rfl
      show _ = iterF tickW k.toNat (sndN N)
      rw [ep, voice_end ha h0 (.inl (by have h1 : quietV (((A ++ a).drop 6).take 6) ≥ r := h1; rw [e6] at h1; exact h1)), hit, sndN, iterW (vo_ok N 0) (vo_ok N 6), hA, eK]
    · rename_i h0 h1 h2
      have h0 : r > 0 := h0
      exact ⟨.inr rfl, ⟨A, a, rfl, hAo, ha⟩, (by omega : 0 ≤ r), hrk⟩
    · rename_i h0 h1 h2
      have h0 : r > 0 := h0
      refine .mk [] [1] _ rfl rfl rfl rfl rfl (blk_eqs (l := passL 6 (A ++ a) r) ?_) rfl
      show _ = iterF tickW k.toNat (sndN N)
      rw [ep, voice_end ha h0 (.inr (by have h2 : quietV (((A ++ a).drop 6).take 6) = 100000 := h2; rw [e6] at h2; exact h2)), hit, sndN, iterW (vo_ok N 0) (vo_ok N 6), hA, eK]
    · rename_i h0 h1 h2
      have h0 : r > 0 := h0
      exact ⟨.inr rfl, ⟨A, a, rfl, hAo, ha⟩, (by rw [e6, ew]; omega : 0 ≤ IntKind.i64.wrap (quietV (((A ++ a).drop 6).take 6) + 1)), (by rw [e6, ew]; omega : IntKind.i64.wrap (quietV (((A ++ a).drop 6).take 6) + 1) ≤ 10000000)⟩
    · rename_i h0 h1 h2
      have h0 : r > 0 := h0
      have h1 : ¬ quietV (((A ++ a).drop 6).take 6) ≥ r := h1
      rw [e6] at h1
      have er : IntKind.i64.wrap (r - IntKind.i64.wrap (quietV (((A ++ a).drop 6).take 6) + 1)) = r - (quietV a + 1) := by rw [e6, ew, ew2 h0]
      have eb : passL 6 (A ++ a) (IntKind.i64.wrap (quietV (((A ++ a).drop 6).take 6) + 1)) = A ++ passV (quietV a + 1) a := by rw [e6, ew, ep]
      apply Exists.intro (_, passV (quietV a + 1) a)
      refine And.intro ?_ (And.intro ?_ (Le.mk [] [0, 1] rfl rfl (heap2 eb) ?ht))
      case ht => repeat' first | exact trivial | exact ⟨rfl, rfl⟩ | refine And.intro ?_ ?_
      · show IntKind.i64.wrap (r - IntKind.i64.wrap (quietV (((A ++ a).drop 6).take 6) + 1)) ≤ imin k 10000000 ∧ vOk (passV (quietV a + 1) a) ∧ iterF (passV 1) (IntKind.i64.wrap (r - IntKind.i64.wrap (quietV (((A ++ a).drop 6).take 6) + 1))).toNat (passV (quietV a + 1) a) = _
        rw [er, voice_step ha (by omega)]
        exact ⟨by omega, passV_ok ha (by omega), hit⟩
      · show (IntKind.i64.wrap (r - IntKind.i64.wrap (quietV (((A ++ a).drop 6).take 6) + 1))).toNat < r.toNat
        rw [er]; omega
    · rename_i h0
      have h0 : ¬ r > 0 := h0
      refine .mk [] [1] _ rfl rfl rfl rfl rfl (blk_eqs (l := A ++ a) ?_) rfl
      show _ = iterF tickW k.toNat (sndN N)
      have e0 : r.toNat = 0 := by omega
      rw [e0] at hit
      have hit : a = _ := hit
      rw [hit, sndN, iterW (vo_ok N 0) (vo_ok N 6), hA, eK]
  · rename_i h0 h1 h2
    have h0 : r > 0 := h0
    exact ⟨.inl rfl, ⟨a, vo N 6, rfl, ha, vo_ok N 6⟩, (by rw [e6, ew]; omega : 0 ≤ IntKind.i64.wrap (quietV (((a ++ vo N 6).drop 0).take 6) + 1)), (by rw [e6, ew]; omega : IntKind.i64.wrap (quietV (((a ++ vo N 6).drop 0).take 6) + 1) ≤ 10000000)⟩
  · rename_i h0 h1 h2
    have h0 : r > 0 := h0
    have h1 : ¬ quietV (((a ++ vo N 6).drop 0).take 6) ≥ r := h1
    rw [e6] at h1
    have er : IntKind.i64.wrap (r - IntKind.i64.wrap (quietV (((a ++ vo N 6).drop 0).take 6) + 1)) = r - (quietV a + 1) := by rw [e6, ew, ew2 h0]
    have eb : passL 0 (a ++ vo N 6) (IntKind.i64.wrap (quietV (((a ++ vo N 6).drop 0).take 6) + 1)) = passV (quietV a + 1) a ++ vo N 6 := by rw [e6, ew, ep]
    apply Exists.intro (_, passV (quietV a + 1) a)
    refine And.intro ?_ (And.intro ?_ (Le.mk [] [0, 1] rfl rfl (heap2 eb) ?ht))
    case ht => repeat' first | exact trivial | exact ⟨rfl, rfl⟩ | refine And.intro ?_ ?_
    · show IntKind.i64.wrap (r - IntKind.i64.wrap (quietV (((a ++ vo N 6).drop 0).take 6) + 1)) ≤ imin k 10000000 ∧ vOk (passV (quietV a + 1) a) ∧ iterF (passV 1) (IntKind.i64.wrap (r - IntKind.i64.wrap (quietV (((a ++ vo N 6).drop 0).take 6) + 1))).toNat (passV (quietV a + 1) a) = _
      rw [er, voice_step ha (by omega)]
      exact ⟨by omega, passV_ok ha (by omega), hit⟩
    · show (IntKind.i64.wrap (r - IntKind.i64.wrap (quietV (((a ++ vo N 6).drop 0).take 6) + 1))).toNat < r.toNat
      rw [er]; omega
  · show (0 : Int) ≤ 6 ∧ (6 : Int) ≤ 12 ∧ (12 : Int) ≤ ((a ++ vo N 6).length : Nat)
    rw [el]; decide
  · rename_i h0
    have h0 : ¬ r > 0 := h0
    have ee : a ++ vo N 6 = A ++ vo N 6 := by
      have e0 : r.toNat = 0 := by omega
      rw [e0] at hit
      rw [hA, ← hit]; rfl
    refine loop_go hT hP (X := Int × List Int) (fun (r, a) => St.mk [.dead, I (imin k 10000000), .dead, .dead, .cell (.ptr 0 0), .cell (.own 1), .dead, .cell (.sub 1 6 6), I r, .dead, .dead, .dead, .dead, .dead, I (IntKind.i64.wrap (0 + 1)), .dead, .dead, .dead, .dead, .dead, .dead, .dead, .dead, .dead, .dead, .dead, .dead, .dead, .dead, .dead, .dead, .dead, .dead, .dead, .dead, .dead, .dead, .dead, .dead, .dead, .dead, .dead, .dead, .dead, .dead, .dead, .dead, .dead, .dead, .dead] [some (.var [.imm (.slice none 0 0), .imm (.slice none 0 0)]), some (.arr (.int .i64) (A ++ a))])
      (fun (r, a) => r ≤ imin k 10000000 ∧ vOk a ∧ iterF (passV 1) r.toNat a = iterF (passV 1) (imin k 10000000).toNat (vo N 6)) (fun (r, _) => r.toNat) (imin k 10000000, vo N 6) (Le.mk [] [0, 1] rfl rfl ?_ ?_) ?_ fun (r, a) hi => ?_
    rotate_right
    repeat' first
      | (refine Go.mk ?_; conv => whnf)
      | refine Need.go ?_ ?_
      | refine NilG.go (fun _ => ?_) (fun _ => ?_)
      | refine Br.dec (fun _ => ?_) (fun _ => ?_)
      | refine Br.go (fun _ => ?_) (fun _ => ?_)
      | refine draw_go hT hP mixed ?_
      | refine round_go hT hP ?_
    rotate_right 3
    · exact heap2 ee
    · repeat' first | exact trivial | exact ⟨rfl, rfl⟩ | refine And.intro ?_ ?_
    · exact ⟨Int.le_refl _, vo_ok N 6, rfl⟩
    all_goals
      obtain ⟨hr, ha, hit⟩ := hi
      have hrk : r ≤ 10000000 := by rw [eK] at hr; omega
      have hq0 := quietV_in ha
      have e6 : (((A ++ a).drop 6).take 6) = a := snd6 hAo.len ha.len
      have ep : ∀ q, passL 6 (A ++ a) q = A ++ passV q a := fun q => passL_snd hAo.len ha.len q
      have el : (A ++ a).length = 12 := by rw [List.length_append, hAo.len, ha.len]
      have ew : IntKind.i64.wrap (quietV a + 1) = quietV a + 1 := w64 (by omega) (by omega)
      have ew2 : r > 0 → IntKind.i64.wrap (r - (quietV a + 1)) = r - (quietV a + 1) := fun h => w64 (by omega) (by omega)
    all_goals first
      | exact of_decide_eq_true rfl
      | (show vOk (((A ++ a).drop 6).take 6)
         rw [e6]; exact ha)
      | skip
    · rename_i h0 h1
      have h0 : r > 0 := h0
      exact ⟨.inr rfl, ⟨A, a, rfl, hAo, ha⟩, (by omega : 0 ≤ r), hrk⟩
    · rename_i h0 h1
      have h0 : r > 0 := h0
      refine .mk [] [1] _ rfl rfl rfl rfl rfl (blk_eqs (l := passL 6 (A ++ a) r) ?_) rfl
      show _ = iterF tickW k.toNat (sndN N)
      rw [ep, voice_end ha h0 (.inl (by have h1 : quietV (((A ++ a).drop 6).take 6) ≥ r := h1; rw [e6] at h1; exact h1)), hit, sndN, iterW (vo_ok N 0) (vo_ok N 6), hA, eK]
    · rename_i h0 h1 h2
      have h0 : r > 0 := h0
      exact ⟨.inr rfl, ⟨A, a, rfl, hAo, ha⟩, (by omega : 0 ≤ r), hrk⟩
    · rename_i h0 h1 h2
      have h0 : r > 0 := h0
      refine .mk [] [1] _ rfl rfl rfl rfl rfl (blk_eqs (l := passL 6 (A ++ a) r) ?_) rfl
      show _ = iterF tickW k.toNat (sndN N)
      rw [ep, voice_end ha h0 (.inr (by have h2 : quietV (((A ++ a).drop 6).take 6) = 100000 := h2; rw [e6] at h2; exact h2)), hit, sndN, iterW (vo_ok N 0) (vo_ok N 6), hA, eK]
    · rename_i h0 h1 h2
      have h0 : r > 0 := h0
      exact ⟨.inr rfl, ⟨A, a, rfl, hAo, ha⟩, (by rw [e6, ew]; omega : 0 ≤ IntKind.i64.wrap (quietV (((A ++ a).drop 6).take 6) + 1)), (by rw [e6, ew]; omega : IntKind.i64.wrap (quietV (((A ++ a).drop 6).take 6) + 1) ≤ 10000000)⟩
    · rename_i h0 h1 h2
      have h0 : r > 0 := h0
      have h1 : ¬ quietV (((A ++ a).drop 6).take 6) ≥ r := h1
      rw [e6] at h1
      have er : IntKind.i64.wrap (r - IntKind.i64.wrap (quietV (((A ++ a).drop 6).take 6) + 1)) = r - (quietV a + 1) := by rw [e6, ew, ew2 h0]
      have eb : passL 6 (A ++ a) (IntKind.i64.wrap (quietV (((A ++ a).drop 6).take 6) + 1)) = A ++ passV (quietV a + 1) a := by rw [e6, ew, ep]
      apply Exists.intro (_, passV (quietV a + 1) a)
      refine And.intro ?_ (And.intro ?_ (Le.mk [] [0, 1] rfl rfl (heap2 eb) ?ht))
      case ht => repeat' first | exact trivial | exact ⟨rfl, rfl⟩ | refine And.intro ?_ ?_
      · show IntKind.i64.wrap (r - IntKind.i64.wrap (quietV (((A ++ a).drop 6).take 6) + 1)) ≤ imin k 10000000 ∧ vOk (passV (quietV a + 1) a) ∧ iterF (passV 1) (IntKind.i64.wrap (r - IntKind.i64.wrap (quietV (((A ++ a).drop 6).take 6) + 1))).toNat (passV (quietV a + 1) a) = _
        rw [er, voice_step ha (by omega)]
        exact ⟨by omega, passV_ok ha (by omega), hit⟩
      · show (IntKind.i64.wrap (r - IntKind.i64.wrap (quietV (((A ++ a).drop 6).take 6) + 1))).toNat < r.toNat
        rw [er]; omega
    · rename_i h0
      have h0 : ¬ r > 0 := h0
      refine .mk [] [1] _ rfl rfl rfl rfl rfl (blk_eqs (l := A ++ a) ?_) rfl
      show _ = iterF tickW k.toNat (sndN N)
      have e0 : r.toNat = 0 := by omega
      rw [e0] at hit
      have hit : a = _ := hit
      rw [hit, sndN, iterW (vo_ok N 0) (vo_ok N 6), hA, eK]

end Go.Proofs.Ytblnigjmcjpopaa

/- The chip with two voices: registers. -/
namespace Go.Proofs.Ytblnigjmcjpopaa
open Go.Fw
set_option linter.unusedVariables false
set_option linter.unusedSimpArgs false
set_option maxRecDepth 100000

def otickS : PSpec := ⟨[gD], fun (d, _) => (none, devR, [.arr (.int .i64) (tickW (sndN d.1))])⟩
theorem oR (N : List Int) : (0 ≤ N.getD 0 0 % 4096 ∧ N.getD 0 0 % 4096 < 4096) ∧ (0 ≤ N.getD 1 0 % 16 ∧ N.getD 1 0 % 16 < 16) ∧ (0 ≤ N.getD 4 0 % 2 ∧ N.getD 4 0 % 2 < 2) ∧ (0 ≤ N.getD 6 0 % 4096 ∧ N.getD 6 0 % 4096 < 4096) ∧ (0 ≤ N.getD 7 0 % 16 ∧ N.getD 7 0 % 16 < 16) ∧ (0 ≤ N.getD 10 0 % 2 ∧ N.getD 10 0 % 2 < 2) := by omega
theorem mul_small {a b : Int} (h1 : 0 ≤ a ∧ a < 16) (h2 : 0 ≤ b ∧ b < 2) : 0 ≤ a * b ∧ a * b < 16 := by
  have : b = 0 ∨ b = 1 := by omega
  rcases this with rfl | rfl <;> omega
def ooutF (N : List Int) : Int := N.getD 1 0 % 16 * (N.getD 4 0 % 2) + N.getD 7 0 % 16 * (N.getD 10 0 % 2)
def ooutS : PSpec := ⟨[gD], fun (d, _) => (none, I (ooutF d.1), [])⟩
theorem oout_wrap (N : List Int) : IntKind.i64.wrap (IntKind.i64.wrap (N.getD 1 0 % 16 * (N.getD 4 0 % 2)) + IntKind.i64.wrap (N.getD 7 0 % 16 * (N.getD 10 0 % 2))) = ooutF N := by
  obtain ⟨h0, h1, h2, h3, h4, h5⟩ := oR N
  have m1 := mul_small h1 h2
  have m2 := mul_small h4 h5
  rw [w64 (x := N.getD 1 0 % 16 * (N.getD 4 0 % 2)) (by omega) (by omega), w64 (x := N.getD 7 0 % 16 * (N.getD 10 0 % 2)) (by omega) (by omega), w64 (by omega) (by omega)]; rfl
def onextF (N : List Int) : Int := min (quietV (vo N 0)) (quietV (vo N 6))
def onextS : PSpec := ⟨[gD], fun (d, _) => (none, I (onextF d.1), [])⟩
def voiceLoS : WSpec := ⟨List Int × Int, fun x => [.c (.own 0), I1 x.2], fun x => [.arr (.int .i64) x.1], fun a b => (match a, b with | [.c (.own 0), .c (.imm (.int .i64 k))], [.arr (.int .i64) n] => some (n, k) | _, _ => none),
  fun x => (some ((0 ≤ x.2 ∧ x.2 < 4) ∧ List.length x.1 = 12), .cell (.sub 0 0 6), [some (.arr (.int .i64) x.1)], [])⟩
theorem voiceLo_ok : GoodF Try.prog 194 voiceLoS.spec := by
  have hT := tab_ok (fs := []) tree_ok
  have hP : SpecsOk Try.prog (tab tree []) := specs_nil
  refine voiceLoS.good (fn := Try.f194) hT hP Try.func194 (by kernel_rfl) rfl ?_ fun ((l, a) : List Int × Int) hq => ?_
  · intro a b x h
    simp only [voiceLoS] at h
    split at h
    · injection h with h; subst h; exact ⟨rfl, rfl⟩
    · cases h
  obtain ⟨hp, hl⟩ : (0 ≤ a ∧ a < 4) ∧ l.length = 12 := hq _ rfl
  have ha : a = 0 ∨ a = 1 ∨ a = 2 ∨ a = 3 := by omega
  rcases ha with rfl | rfl | rfl | rfl
  all_goals
    repeat' first
      | (refine Go.mk ?_; conv => whnf)
      | refine Need.go ?_ ?_
      | refine NilG.go (fun _ => ?_) (fun _ => ?_)
      | refine Br.dec (fun _ => ?_) (fun _ => ?_)
      | refine Br.go (fun _ => ?_) (fun _ => ?_)
      | refine draw_go hT hP mixed ?_
      | refine round_go hT hP ?_
    all_goals first
      | exact of_decide_eq_true rfl
      | (exfalso; rename_i h; revert h; decide)
      | (show (0 : Int) ≤ 0 ∧ (0 : Int) ≤ 6 ∧ (6 : Int) ≤ (l.length : Nat)
         rw [hl]; decide)
      | exact .mk [] [0] _ rfl rfl rfl rfl rfl rfl rfl
      | skip
def voiceHiS : WSpec := ⟨List Int × Int, fun x => [.c (.own 0), I1 x.2], fun x => [.arr (.int .i64) x.1], fun a b => (match a, b with | [.c (.own 0), .c (.imm (.int .i64 k))], [.arr (.int .i64) n] => some (n, k) | _, _ => none),
  fun x => (some ((4 ≤ x.2 ∧ x.2 < 8) ∧ List.length x.1 = 12), .cell (.sub 0 6 6), [some (.arr (.int .i64) x.1)], [])⟩
theorem voiceHi_ok : GoodF Try.prog 194 voiceHiS.spec := by
  have hT := tab_ok (fs := []) tree_ok
  have hP : SpecsOk Try.prog (tab tree []) := specs_nil
  refine voiceHiS.good (fn := Try.f194) hT hP Try.func194 (by kernel_rfl) rfl ?_ fun ((l, a) : List Int × Int) hq => ?_
  · intro a b x h
    simp only [voiceHiS] at h
    split at h
    · injection h with h; subst h; exact ⟨rfl, rfl⟩
    · cases h
  obtain ⟨hp, hl⟩ : (4 ≤ a ∧ a < 8) ∧ l.length = 12 := hq _ rfl
  have ha : a = 4 ∨ a = 5 ∨ a = 6 ∨ a = 7 := by omega
  rcases ha with rfl | rfl | rfl | rfl
  all_goals
    repeat' first
      | (refine Go.mk ?_; conv => whnf)
      | refine Need.go ?_ ?_
      | refine NilG.go (fun _ => ?_) (fun _ => ?_)
      | refine Br.dec (fun _ => ?_) (fun _ => ?_)
      | refine Br.go (fun _ => ?_) (fun _ => ?_)
      | refine draw_go hT hP mixed ?_
      | refine round_go hT hP ?_
    all_goals first
      | exact of_decide_eq_true rfl
      | (exfalso; rename_i h; revert h; decide)
      | (show (0 : Int) ≤ 6 ∧ (6 : Int) ≤ 12 ∧ (12 : Int) ≤ (l.length : Nat)
         rw [hl]; decide)
      | exact .mk [] [0] _ rfl rfl rfl rfl rfl rfl rfl
      | skip
def voiceNoS : WSpec := ⟨List Int × Int, fun x => [.c (.own 0), I1 x.2], fun x => [.arr (.int .i64) x.1], fun a b => (match a, b with | [.c (.own 0), .c (.imm (.int .i64 k))], [.arr (.int .i64) n] => some (n, k) | _, _ => none),
  fun x => (some (x.2 < 0 ∨ x.2 ≥ 8), .cell (.imm (.slice none 0 0)), [some (.arr (.int .i64) x.1)], [])⟩
theorem voiceNo_ok : GoodF Try.prog 194 voiceNoS.spec := by
  have hT := tab_ok (fs := []) tree_ok
  have hP : SpecsOk Try.prog (tab tree []) := specs_nil
  refine voiceNoS.good (fn := Try.f194) hT hP Try.func194 (by kernel_rfl) rfl ?_ fun ((l, a) : List Int × Int) hq => ?_
  · intro a b x h
    simp only [voiceNoS] at h
    split at h
    · injection h with h; subst h; exact ⟨rfl, rfl⟩
    · cases h
  have hp : a < 0 ∨ a ≥ 8 := hq _ rfl
  repeat' first
    | (refine Go.mk ?_; conv => whnf)
    | refine Need.go ?_ ?_
    | refine NilG.go (fun _ => ?_) (fun _ => ?_)
    | refine Br.dec (fun _ => ?_) (fun _ => ?_)
    | refine Br.go (fun _ => ?_) (fun _ => ?_)
    | refine draw_go hT hP mixed ?_
    | refine round_go hT hP ?_
  all_goals first
    | exact .mk [] [0] _ rfl rfl rfl rfl rfl rfl rfl
    | (exfalso; dsimp only at *; omega)
    | skip

def orF (N : List Int) (a : Int) : Int := pickF [N.getD 0 0 % 4096 % 256, N.getD 0 0 % 4096 / 256, N.getD 1 0 % 16, N.getD 2 0 % 256, N.getD 6 0 % 4096 % 256, N.getD 6 0 % 4096 / 256, N.getD 7 0 % 16, N.getD 8 0 % 256] a
theorem get_lo {n : Int} : n / 2 ^ (0 : Int).toNat % 2 ^ (8 : Int).toNat = n % 256 := by
  show n / 1 % 256 = n % 256
  rw [Int.ediv_one]
theorem get_hi {n : Int} (h : 0 ≤ n ∧ n < 4096) : n / 2 ^ (8 : Int).toNat % 2 ^ (4 : Int).toNat = n / 256 := by
  show n / 256 % 16 = n / 256
  omega
def oreadLoS : PSpec := ⟨[gD, gi], fun (d, a, _) => (some (0 ≤ a ∧ a < 4), .tup [.agg [.own 0, .imm (.slice none 0 0)], I1 (orF d.1 a)], [.arr (.int .i64) (sndN d.1)])⟩
theorem oreadLo_ok : GoodF Try.prog 159 oreadLoS.spec := by
  have hT := tab_ok (fs := [(174, ofitS.spec), (194, voiceLoS.spec), (143, getM.spec)]) tree_ok
  have hP : SpecsOk Try.prog (tab tree [(174, ofitS.spec), (194, voiceLoS.spec), (143, getM.spec)]) := specs_cons ofit_ok (specs_cons voiceLo_ok (specs_cons getM_ok specs_nil))
  refine oreadLoS.good (fn := Try.f159) hT hP Try.func159 (by kernel_rfl) rfl fun (d : Dv) (a : Int) hq => ?_
  have hp : 0 ≤ a ∧ a < 4 := hq _ rfl
  obtain ⟨N, M⟩ := d
  obtain ⟨h0, h1, h2, h3, h4, h5⟩ := oR N
  have ha : a = 0 ∨ a = 1 ∨ a = 2 ∨ a = 3 := by omega
  rcases ha with rfl | rfl | rfl | rfl
  all_goals
    repeat' first
      | (refine Go.mk ?_; conv => whnf)
      | refine Need.go ?_ ?_
      | refine NilG.go (fun _ => ?_) (fun _ => ?_)
      | refine Br.dec (fun _ => ?_) (fun _ => ?_)
      | refine Br.go (fun _ => ?_) (fun _ => ?_)
      | refine draw_go hT hP mixed ?_
      | refine round_go hT hP ?_
    all_goals first
      | exact of_decide_eq_true rfl
      | exact ⟨of_decide_eq_true rfl, rfl⟩
      | (exfalso; rename_i h; exact absurd (show (6 : Nat) = 0 from h) (by decide))
      | (show 0 ≤ N.getD 0 0 % 4096 ∧ N.getD 0 0 % 4096 < 4611686018427387904 ∧ _
         exact ⟨by omega, by omega, by decide, by decide, by decide⟩)
      | (refine .mk [] [2] _ rfl rfl rfl rfl rfl rfl (tup_reads ?_)
         first | exact get_lo | exact get_hi h0 | exact rfl)
      | skip
def oreadHiS : PSpec := ⟨[gD, gi], fun (d, a, _) => (some (4 ≤ a ∧ a < 8), .tup [.agg [.own 0, .imm (.slice none 0 0)], I1 (orF d.1 a)], [.arr (.int .i64) (sndN d.1)])⟩
theorem oreadHi_ok : GoodF Try.prog 159 oreadHiS.spec := by
  have hT := tab_ok (fs := [(174, ofitS.spec), (194, voiceHiS.spec), (143, getM.spec)]) tree_ok
  have hP : SpecsOk Try.prog (tab tree [(174, ofitS.spec), (194, voiceHiS.spec), (143, getM.spec)]) := specs_cons ofit_ok (specs_cons voiceHi_ok (specs_cons getM_ok specs_nil))
  refine oreadHiS.good (fn := Try.f159) hT hP Try.func159 (by kernel_rfl) rfl fun (d : Dv) (a : Int) hq => ?_
  have hp : 4 ≤ a ∧ a < 8 := hq _ rfl
  obtain ⟨N, M⟩ := d
  obtain ⟨h0, h1, h2, h3, h4, h5⟩ := oR N
  have ha : a = 4 ∨ a = 5 ∨ a = 6 ∨ a = 7 := by omega
  rcases ha with rfl | rfl | rfl | rfl
  all_goals
    repeat' first
      | (refine Go.mk ?_; conv => whnf)
      | refine Need.go ?_ ?_
      | refine NilG.go (fun _ => ?_) (fun _ => ?_)
      | refine Br.dec (fun _ => ?_) (fun _ => ?_)
      | refine Br.go (fun _ => ?_) (fun _ => ?_)
      | refine draw_go hT hP mixed ?_
      | refine round_go hT hP ?_
    all_goals first
      | exact of_decide_eq_true rfl
      | exact ⟨of_decide_eq_true rfl, rfl⟩
      | (exfalso; rename_i h; exact absurd (show (6 : Nat) = 0 from h) (by decide))
      | (show 0 ≤ N.getD 6 0 % 4096 ∧ N.getD 6 0 % 4096 < 4611686018427387904 ∧ _
         exact ⟨by omega, by omega, by decide, by decide, by decide⟩)
      | (refine .mk [] [2] _ rfl rfl rfl rfl rfl rfl (tup_reads ?_)
         first | exact get_lo | exact get_hi h3 | exact rfl)
      | skip
def oreadNoS : PSpec := ⟨[gD, gi], fun (d, a, _) => (some (a < 0 ∨ a ≥ 8), .tup [.agg [.own 0, .imm (.slice none 0 0)], I1 (orF d.1 a)], [.arr (.int .i64) (sndN d.1)])⟩
theorem oreadNo_ok : GoodF Try.prog 159 oreadNoS.spec := by
  have hT := tab_ok (fs := [(174, ofitS.spec), (194, voiceNoS.spec), (143, getM.spec)]) tree_ok
  have hP : SpecsOk Try.prog (tab tree [(174, ofitS.spec), (194, voiceNoS.spec), (143, getM.spec)]) := specs_cons ofit_ok (specs_cons voiceNo_ok (specs_cons getM_ok specs_nil))
  refine oreadNoS.good (fn := Try.f159) hT hP Try.func159 (by kernel_rfl) rfl fun (d : Dv) (a : Int) hq => ?_
  have hp : a < 0 ∨ a ≥ 8 := hq _ rfl
  obtain ⟨N, M⟩ := d
  obtain ⟨h0, h1, h2, h3, h4, h5⟩ := oR N
  repeat' first
    | (refine Go.mk ?_; conv => whnf)
    | refine Need.go ?_ ?_
    | refine NilG.go (fun _ => ?_) (fun _ => ?_)
    | refine Br.dec (fun _ => ?_) (fun _ => ?_)
    | refine Br.go (fun _ => ?_) (fun _ => ?_)
    | refine draw_go hT hP mixed ?_
    | refine round_go hT hP ?_
  all_goals first
    | exact hp
    | contradiction
    | (refine .mk [] [2] _ rfl rfl rfl rfl rfl rfl (tup_reads ?_)
       exact (pick_no fun i hi => by
         have : i < 8 := hi
         omega).symm)
    | skip
theorem out8 (a : Int) (h : ¬ (0 ≤ a ∧ a < 8)) : a < 0 ∨ a ≥ 8 := by omega
def oreadS : PSpec := ⟨[gD, gi], fun (d, a, _) => (none, .tup [.agg [.own 0, .imm (.slice none 0 0)], I1 (orF d.1 a)], [.arr (.int .i64) (sndN d.1)])⟩
def oread8S : PSpec := ⟨[gD, gi], fun (d, a, _) => (some (0 ≤ a ∧ a < 8), .tup [.agg [.own 0, .imm (.slice none 0 0)], I1 (orF d.1 a)], [.arr (.int .i64) (sndN d.1)])⟩
theorem oread8_ok : GoodF Try.prog 159 oread8S.spec := GoodF.cases oreadLo_ok oreadHi_ok fun (d, a, _) hq => by
  have hp : 0 ≤ a ∧ a < 8 := hq _ rfl
  rcases Int.lt_or_le a 4 with h | h
  · exact .inl ⟨fun q hq => by cases hq; exact ⟨hp.1, h⟩, rfl⟩
  · exact .inr ⟨fun q hq => by cases hq; exact ⟨h, hp.2⟩, rfl⟩
theorem oread_ok : GoodF Try.prog 159 oreadS.spec := GoodF.cases oread8_ok oreadNo_ok fun (d, a, _) _ => by
  by_cases h : 0 ≤ a ∧ a < 8
  · exact .inl ⟨fun q hq => by cases hq; exact h, rfl⟩
  · exact .inr ⟨fun q hq => by cases hq; exact out8 a h, rfl⟩

def owF (N : List Int) (a k : Int) : List Int :=
  if a = 0 then (sndN N).set 0 (N.getD 0 0 % 4096 / 256 * 256 + k % 256) else if a = 1 then (sndN N).set 0 (N.getD 0 0 % 4096 % 256 + k % 16 * 256) else if a = 2 then ((sndN N).set 1 (k % 16)).set 5 0 else if a = 3 then (sndN N).set 2 (k % 256)
  else if a = 4 then (sndN N).set 6 (N.getD 6 0 % 4096 / 256 * 256 + k % 256) else if a = 5 then (sndN N).set 6 (N.getD 6 0 % 4096 % 256 + k % 16 * 256) else if a = 6 then ((sndN N).set 7 (k % 16)).set 11 0 else if a = 7 then (sndN N).set 8 (k % 256) else sndN N
theorem put_lo {n k : Int} (h : 0 ≤ n ∧ n < 4096) : 2 ^ (0 : Int).toNat * (2 ^ (8 : Int).toNat * (n / 2 ^ ((0 : Int) + 8).toNat) + k % 2 ^ (8 : Int).toNat) + n % 2 ^ (0 : Int).toNat = n / 256 * 256 + k % 256 := by
  show 1 * (256 * (n / 256) + k % 256) + n % 1 = _
  omega
theorem put_hi {n k : Int} (h : 0 ≤ n ∧ n < 4096) : 2 ^ (8 : Int).toNat * (2 ^ (4 : Int).toNat * (n / 2 ^ ((8 : Int) + 4).toNat) + k % 2 ^ (4 : Int).toNat) + n % 2 ^ (8 : Int).toNat = n % 256 + k % 16 * 256 := by
  show 256 * (16 * (n / 4096) + k % 16) + n % 256 = _
  omega
theorem set_eq {l : List Int} {i : Nat} {x y : Int} (h : x = y) : l.set i x = l.set i y := by rw [h]
def owriteLoS : PSpec := ⟨[gD, gi, gi], fun (d, a, k, _) => (some (0 ≤ a ∧ a < 4), devR, [.arr (.int .i64) (owF d.1 a k)])⟩
theorem owriteLo_ok : GoodF Try.prog 166 owriteLoS.spec := by
  have hT := tab_ok (fs := [(174, ofitS.spec), (194, voiceLoS.spec), (142, putM.spec), (70, lowM.spec)]) tree_ok
  have hP : SpecsOk Try.prog (tab tree [(174, ofitS.spec), (194, voiceLoS.spec), (142, putM.spec), (70, lowM.spec)]) := specs_cons ofit_ok (specs_cons voiceLo_ok (specs_cons putM_ok (specs_cons lowM_ok specs_nil)))
  refine owriteLoS.good (fn := Try.f166) hT hP Try.func166 (by kernel_rfl) rfl fun (d : Dv) (a k : Int) hq => ?_
  have hp : 0 ≤ a ∧ a < 4 := hq _ rfl
  obtain ⟨N, M⟩ := d
  obtain ⟨h0, h1, h2, h3, h4, h5⟩ := oR N
  have ha : a = 0 ∨ a = 1 ∨ a = 2 ∨ a = 3 := by omega
  rcases ha with rfl | rfl | rfl | rfl
  all_goals
    repeat' first
      | (refine Go.mk ?_; conv => whnf)
      | refine Need.go ?_ ?_
      | refine NilG.go (fun _ => ?_) (fun _ => ?_)
      | refine Br.dec (fun _ => ?_) (fun _ => ?_)
      | refine Br.go (fun _ => ?_) (fun _ => ?_)
      | refine draw_go hT hP mixed ?_
      | refine round_go hT hP ?_
    all_goals first
      | exact of_decide_eq_true rfl
      | exact ⟨of_decide_eq_true rfl, rfl⟩
      | (exfalso; rename_i h; exact absurd (show (6 : Nat) = 0 from h) (by decide))
      | (show 0 ≤ N.getD 0 0 % 4096 ∧ N.getD 0 0 % 4096 < 4611686018427387904 ∧ _
         exact ⟨by omega, by omega, by decide, by decide, by decide⟩)
      | exact .mk [] [2] _ rfl rfl rfl rfl rfl rfl rfl
      | (refine .mk [] [2] _ rfl rfl rfl rfl rfl (blk_eqs ?_) rfl
         first | exact set_eq (put_lo h0) | exact set_eq (put_hi h0))
      | skip
def owriteHiS : PSpec := ⟨[gD, gi, gi], fun (d, a, k, _) => (some (4 ≤ a ∧ a < 8), devR, [.arr (.int .i64) (owF d.1 a k)])⟩
theorem owriteHi_ok : GoodF Try.prog 166 owriteHiS.spec := by
  have hT := tab_ok (fs := [(174, ofitS.spec), (194, voiceHiS.spec), (142, putM.spec), (70, lowM.spec)]) tree_ok
  have hP : SpecsOk Try.prog (tab tree [(174, ofitS.spec), (194, voiceHiS.spec), (142, putM.spec), (70, lowM.spec)]) := specs_cons ofit_ok (specs_cons voiceHi_ok (specs_cons putM_ok (specs_cons lowM_ok specs_nil)))
  refine owriteHiS.good (fn := Try.f166) hT hP Try.func166 (by kernel_rfl) rfl fun (d : Dv) (a k : Int) hq => ?_
  have hp : 4 ≤ a ∧ a < 8 := hq _ rfl
  obtain ⟨N, M⟩ := d
  obtain ⟨h0, h1, h2, h3, h4, h5⟩ := oR N
  have ha : a = 4 ∨ a = 5 ∨ a = 6 ∨ a = 7 := by omega
  rcases ha with rfl | rfl | rfl | rfl
  all_goals
    repeat' first
      | (refine Go.mk ?_; conv => whnf)
      | refine Need.go ?_ ?_
      | refine NilG.go (fun _ => ?_) (fun _ => ?_)
      | refine Br.dec (fun _ => ?_) (fun _ => ?_)
      | refine Br.go (fun _ => ?_) (fun _ => ?_)
      | refine draw_go hT hP mixed ?_
      | refine round_go hT hP ?_
    all_goals first
      | exact of_decide_eq_true rfl
      | exact ⟨of_decide_eq_true rfl, rfl⟩
      | (exfalso; rename_i h; exact absurd (show (6 : Nat) = 0 from h) (by decide))
      | (show 0 ≤ N.getD 6 0 % 4096 ∧ N.getD 6 0 % 4096 < 4611686018427387904 ∧ _
         exact ⟨by omega, by omega, by decide, by decide, by decide⟩)
      | exact .mk [] [2] _ rfl rfl rfl rfl rfl rfl rfl
      | (refine .mk [] [2] _ rfl rfl rfl rfl rfl (blk_eqs ?_) rfl
         first | exact set_eq (put_lo h3) | exact set_eq (put_hi h3))
      | skip
def owriteNoS : PSpec := ⟨[gD, gi, gi], fun (d, a, k, _) => (some (a < 0 ∨ a ≥ 8), devR, [.arr (.int .i64) (owF d.1 a k)])⟩
theorem owriteNo_ok : GoodF Try.prog 166 owriteNoS.spec := by
  have hT := tab_ok (fs := [(174, ofitS.spec), (194, voiceNoS.spec), (142, putM.spec), (70, lowM.spec)]) tree_ok
  have hP : SpecsOk Try.prog (tab tree [(174, ofitS.spec), (194, voiceNoS.spec), (142, putM.spec), (70, lowM.spec)]) := specs_cons ofit_ok (specs_cons voiceNo_ok (specs_cons putM_ok (specs_cons lowM_ok specs_nil)))
  refine owriteNoS.good (fn := Try.f166) hT hP Try.func166 (by kernel_rfl) rfl fun (d : Dv) (a k : Int) hq => ?_
  have hp : a < 0 ∨ a ≥ 8 := hq _ rfl
  obtain ⟨N, M⟩ := d
  obtain ⟨h0, h1, h2, h3, h4, h5⟩ := oR N
  repeat' first
    | (refine Go.mk ?_; conv => whnf)
    | refine Need.go ?_ ?_
    | refine NilG.go (fun _ => ?_) (fun _ => ?_)
    | refine Br.dec (fun _ => ?_) (fun _ => ?_)
    | refine Br.go (fun _ => ?_) (fun _ => ?_)
    | refine draw_go hT hP mixed ?_
    | refine round_go hT hP ?_
  all_goals first
    | exact hp
    | contradiction
    | (refine .mk [] [2] _ rfl rfl rfl rfl rfl (blk_eqs (l := sndN N) ?_) rfl
       show _ = owF N a k
       unfold owF
       rw [if_neg (by omega), if_neg (by omega), if_neg (by omega), if_neg (by omega), if_neg (by omega), if_neg (by omega), if_neg (by omega), if_neg (by omega)])
    | skip
def owriteS : PSpec := ⟨[gD, gi, gi], fun (d, a, k, _) => (none, devR, [.arr (.int .i64) (owF d.1 a k)])⟩
def owrite8S : PSpec := ⟨[gD, gi, gi], fun (d, a, k, _) => (some (0 ≤ a ∧ a < 8), devR, [.arr (.int .i64) (owF d.1 a k)])⟩
theorem owrite8_ok : GoodF Try.prog 166 owrite8S.spec := GoodF.cases owriteLo_ok owriteHi_ok fun (d, a, k, _) hq => by
  have hp : 0 ≤ a ∧ a < 8 := hq _ rfl
  rcases Int.lt_or_le a 4 with h | h
  · exact .inl ⟨fun q hq => by cases hq; exact ⟨hp.1, h⟩, rfl⟩
  · exact .inr ⟨fun q hq => by cases hq; exact ⟨h, hp.2⟩, rfl⟩
theorem owrite_ok : GoodF Try.prog 166 owriteS.spec := GoodF.cases owrite8_ok owriteNo_ok fun (d, a, k, _) _ => by
  by_cases h : 0 ≤ a ∧ a < 8
  · exact .inl ⟨fun q hq => by cases hq; exact h, rfl⟩
  · exact .inr ⟨fun q hq => by cases hq; exact out8 a h, rfl⟩

def soundsS : PSpec := ⟨[], fun _ => (none, .cell (bv true), [])⟩
end Go.Proofs.Ytblnigjmcjpopaa

/- The chip with two voices, by the document. -/
namespace Go.Proofs.Ytblnigjmcjpopaa
open Go.Fw
set_option linter.unusedVariables false
set_option linter.unusedSimpArgs false
set_option maxRecDepth 100000

def sndC : Cv := (ByteArray.empty, 7, 0, 0, [])
def omods : List Int := [4096, 16, 256, 4096, 2, 16384, 4096, 16, 256, 4096, 2, 16384]
theorem omods_ok : omods.length ≤ 1000 ∧ ∀ m ∈ omods, 0 < m ∧ m ≤ 4611686018427387904 := by decide
def oformedS : PSpec := ⟨[gC, gD], fun (c, d, _) => (some (c.2.1 = 7), devR, [.arr (.int .i64) (sndN d.1)])⟩
theorem oformed_ok : GoodF Try.prog 54 oformedS.spec := by
  have hT := tab_ok (fs := [(117, formS.spec)]) tree_ok
  have hP : SpecsOk Try.prog (tab tree [(117, formS.spec)]) := specs_cons form_ok specs_nil
  refine oformedS.good (fn := Try.f54) hT hP Try.func54 (by kernel_rfl) rfl fun (c : Cv) (d : Dv) hp => ?_
  obtain ⟨cn, ck, cb, cs, cd⟩ := c
  obtain rfl : ck = 7 := hp _ rfl
  obtain ⟨N, M⟩ := d
  repeat' first
    | (refine Go.mk ?_; conv => whnf)
    | refine Need.go ?_ ?_
    | refine NilG.go (fun _ => ?_) (fun _ => ?_)
    | refine Br.dec (fun _ => ?_) (fun _ => ?_)
    | refine Br.go (fun _ => ?_) (fun _ => ?_)
    | refine draw_go hT hP mixed ?_
    | refine round_go hT hP ?_
  all_goals first
    | exact rfl
    | exact omods_ok
    | exact of_decide_eq_true rfl
    | skip
  exact .mk [] [5] _ rfl rfl rfl rfl rfl rfl rfl

def ofreshS : PSpec := ⟨[gC], fun (c, _) => (some (c.2.1 = 7), devR, [.arr (.int .i64) (List.replicate 12 0)])⟩
theorem ofresh_ok : GoodF Try.prog 50 ofreshS.spec := by
  have hT := tab_ok (fs := [(54, oformedS.spec)]) tree_ok
  have hP : SpecsOk Try.prog (tab tree [(54, oformedS.spec)]) := specs_cons oformed_ok specs_nil
  refine ofreshS.good (fn := Try.f50) hT hP Try.func50 (by kernel_rfl) rfl fun (c : Cv) hp => ?_
  obtain ⟨cn, ck, cb, cs, cd⟩ := c
  obtain rfl : ck = 7 := hp _ rfl
  repeat' first
    | (refine Go.mk ?_; conv => whnf)
    | refine Need.go ?_ ?_
    | refine NilG.go (fun _ => ?_) (fun _ => ?_)
    | refine Br.dec (fun _ => ?_) (fun _ => ?_)
    | refine Br.go (fun _ => ?_) (fun _ => ?_)
    | refine draw_go hT hP mixed ?_
    | refine round_go hT hP ?_
  all_goals first
    | exact rfl
    | exact omods_ok
    | exact of_decide_eq_true rfl
    | skip
  exact .mk [] [2] _ rfl rfl rfl rfl rfl rfl rfl

theorem tm {n m : Int} (h : 0 ≤ n) : Int.tmod n m = n % m := Int.tmod_eq_emod_of_nonneg h
theorem td256 {n : Int} (h : 0 ≤ n ∧ n < 4096) : IntKind.i64.wrap (Int.tdiv n 256) = n / 256 := by rw [Int.tdiv_eq_ediv_of_nonneg h.1, w64 (by omega) (by omega)]
def oloadedS : PSpec := ⟨[gC, gD, gi], fun (c, d, a, _) => (some (c.2.1 = 7), .tup [.agg [.own 0, .imm (.slice none 0 0)], I1 (orF d.1 a)], [.arr (.int .i64) (sndN d.1)])⟩
theorem st_lo {n k : Int} (h : 0 ≤ n ∧ n < 4096) : IntKind.i64.wrap (IntKind.i64.wrap (IntKind.i64.wrap (Int.tdiv n 256) * 256) + k % 256) = n / 256 * 256 + k % 256 := by
  rw [td256 h, w64 (x := n / 256 * 256) (by omega) (by omega), w64 (by omega) (by omega)]
theorem st_v {k : Int} : Int.tmod (k % 256) 16 = k % 16 := by rw [tm (by omega)]; omega
theorem st_hi {n k : Int} (h : 0 ≤ n ∧ n < 4096) : IntKind.i64.wrap (Int.tmod n 256 + IntKind.i64.wrap (Int.tmod (k % 256) 16 * 256)) = n % 256 + k % 16 * 256 := by
  rw [tm h.1, st_v, w64 (x := k % 16 * 256) (by omega) (by omega), w64 (by omega) (by omega)]
theorem set2_eq {l : List Int} {i j : Nat} {x y z : Int} (h : x = y) : (l.set i x).set j z = (l.set i y).set j z := by rw [h]
def ostoredS : PSpec := ⟨[gC, gD, gi, gi], fun (c, d, a, k, _) => (some (c.2.1 = 7), devR, [.arr (.int .i64) (owF d.1 a k)])⟩
def oshowsS : PSpec := ⟨[gC, gD], fun (c, d, _) => (some (c.2.1 = 7), I (ooutF d.1), [])⟩
theorem heap4 {x y z : Blk} {l l' : List Int} (h : l = l') : [some x, some y, some (Blk.arr (.int .i64) l), some z] = [some x, some y, some (Blk.arr (.int .i64) l'), some z] := by rw [h]
def otickedS : PSpec := ⟨[gC, gD], fun (c, d, _) => (some (c.2.1 = 7), devR, [.arr (.int .i64) (tickW (sndN d.1))])⟩
set_option maxHeartbeats 8000000 in
theorem oticked_ok : GoodF Try.prog 55 otickedS.spec := by
  have hT := tab_ok (fs := [(54, oformedS.spec)]) tree_ok
  have hP : SpecsOk Try.prog (tab tree [(54, oformedS.spec)]) := specs_cons oformed_ok specs_nil
  refine otickedS.good (fn := Try.f55) hT hP Try.func55 (by kernel_rfl) rfl fun (c : Cv) (d : Dv) hp => ?_
  obtain ⟨cn, ck, cb, cs, cd⟩ := c
  obtain rfl : ck = 7 := hp _ rfl
  obtain ⟨N, M⟩ := d
  repeat' first
    | (refine Go.mk ?_; conv => whnf)
    | refine Need.go ?_ ?_
    | refine NilG.go (fun _ => ?_) (fun _ => ?_)
    | refine Br.dec (fun _ => ?_) (fun _ => ?_)
    | refine Br.go (fun _ => ?_) (fun _ => ?_)
    | refine draw_go hT hP mixed ?_
    | refine round_go hT hP ?_
  all_goals first
    | exact rfl
    | exact of_decide_eq_true rfl
    | skip
  refine loop_go hT hP (X := Int × List Int) (fun (i, l) => St.mk [.dead, .dead, .dead, .cell (.ptr 0 0), .cell (.ptr 1 0), .dead, .dead, .dead, .dead, .dead, .dead, .dead, .dead, .dead, .dead, .dead, .dead, .dead, .dead, .dead, .dead, .dead, .dead, .dead, .dead, .dead, .dead, .dead, .dead, .dead, .dead, .dead, .dead, .dead, .dead, .dead, .dead, .dead, .dead, .dead, .dead, .dead, .dead, .dead, .dead, .dead, .dead, .dead, .dead, .dead, .dead, .dead, .dead, .dead, .dead, .dead, .dead, .dead, .dead, .dead, .dead, .dead, .dead, .dead, .dead, .dead, .dead, .dead, .dead, .dead, .dead, .dead, .dead, .dead, .dead, .dead, .dead, .dead, .dead, .dead, .dead, .dead, .dead, .dead, .dead, .dead, .dead, .dead, .dead, .dead, .dead, .dead, .dead, .dead, .dead, .dead, .dead, .dead, .dead, .dead, .dead, .dead, .dead, .dead, .dead, .dead, .dead, .dead, .dead, .dead, .dead, .cell (.svar 3 0 2), I 2, I i, .dead, .dead, .dead, .dead, .dead, .dead, .dead, .dead, .dead, .dead, .dead, .dead, .dead, .dead, .dead, .dead, .dead, .dead, .dead, .dead, .dead, .dead, .dead, .dead, .dead, .dead, .dead, .dead, .dead, .dead, .dead, .dead, .dead, .dead, .dead, .dead, .dead, .dead, .dead, .dead, .dead, .dead, .dead, .dead, .dead, .dead, .dead, .dead, .dead, .dead, .dead, .dead, .dead, .dead, .dead, .dead, .dead, .dead, .dead, .dead, .dead, .dead, .dead, .dead, .dead, .dead, .dead, .dead, .dead, .dead] [some (.var [.own 2, .imm (.slice none 0 0)]), some (.var [.imm (.slice none 0 0), .imm (.slice none 0 0)]), some (.arr (.int .i64) l), some (.var [.sub 2 0 6, .sub 2 6 6])])
    (fun (i, l) => (i = 0 ∧ l = vo N 0 ++ vo N 6) ∨ (i = 1 ∧ l = passV 1 (vo N 0) ++ vo N 6) ∨ (i = 2 ∧ l = passV 1 (vo N 0) ++ passV 1 (vo N 6))) (fun (i, _) => (2 - i).toNat) (0, sndN N) (Le.mk [] [1, 2, 3, 4] rfl rfl ?_ ?_) ?_ fun (i, l) hi => ?_
  · exact rfl
  · repeat' first | exact trivial | exact ⟨rfl, rfl⟩ | refine And.intro ?_ ?_
  · exact .inl ⟨rfl, rfl⟩
  rcases hi with ⟨rfl, hl⟩ | ⟨rfl, hl⟩ | ⟨rfl, hl⟩
  · obtain ⟨A, hA⟩ : ∃ A, A = vo N 0 := ⟨_, rfl⟩
    obtain ⟨B, hB⟩ : ∃ B, B = vo N 6 := ⟨_, rfl⟩
    have oA : vOk A := by rw [hA]; exact vo_ok N 0
    have oB : vOk B := by rw [hB]; exact vo_ok N 6
    rw [← hA, ← hB] at hl
    subst hl
    obtain ⟨G, hG⟩ : ∃ G, G = passV 1 A ++ B := ⟨_, rfl⟩
    have hI : ∀ z : Int × List Int, z.1 = 1 → z.2 = G → (z.1 = 0 ∧ z.2 = vo N 0 ++ vo N 6) ∨ (z.1 = 1 ∧ z.2 = passV 1 (vo N 0) ++ vo N 6) ∨ (z.1 = 2 ∧ z.2 = passV 1 (vo N 0) ++ passV 1 (vo N 6)) := by
      intro z h1 h2
      rw [h1, h2, hG, hA, hB]
      exact .inr (.inl ⟨rfl, rfl⟩)
    clear hA hB
    cases oA with
    | mk hp hv hr hc hf hw =>
    cases oB with
    | mk hp' hv' hr' hc' hf' hw' =>
    rename_i p v r c f w p' v' r' c' f' w'
    repeat' first
      | (refine Go.mk ?_; conv => whnf)
      | refine Need.go ?_ ?_
      | refine NilG.go (fun _ => ?_) (fun _ => ?_)
      | refine Br.dec (fun _ => ?_) (fun _ => ?_)
      | refine Br.go (fun _ => ?_) (fun _ => ?_)
      | refine draw_go hT hP mixed ?_
      | refine round_go hT hP ?_
    all_goals first
      | exact of_decide_eq_true rfl
      | (exfalso; rename_i h; revert h; decide)
      | skip
    all_goals
      apply Exists.intro (_, G)
      refine And.intro ?_ (And.intro ?_ (Le.mk [] [0, 1, 2, 3] rfl rfl (heap4 ?_) ?ht))
      case ht => repeat' first | exact trivial | exact ⟨rfl, rfl⟩ | refine And.intro ?_ ?_
    all_goals first
      | exact hI (IntKind.i64.wrap (0 + 1), G) rfl rfl
      | (show (2 - IntKind.i64.wrap (0 + 1)).toNat < (2 - (0 : Int)).toNat
         decide)
      | (rw [hG]
         have ew1 : IntKind.i64.wrap (c + 1) = c + 1 := w64 (by omega) (by omega)
         have ew2 : IntKind.i64.wrap (1 - f) = 1 - f := w64 (by omega) (by omega)
         have ew3 : IntKind.i64.wrap (w + 1) = w + 1 := w64 (by omega) (by omega)
         have ew4 : IntKind.i64.wrap (64 * r) = r * 64 := by rw [w64 (by omega) (by omega), Int.mul_comm]
         have ew5 : IntKind.i64.wrap (v - 1) = v - 1 := w64 (by omega) (by omega)
         clear hT hP hp hI hG
         simp [ew1, ew2, ew3, ew4, ew5] at *
         try simp [passV, *]
         (repeat' first | refine And.intro ?_ ?_ | intro _)
         all_goals first | omega | (exfalso; omega))
      | skip
  · obtain ⟨A, hA⟩ : ∃ A, A = passV 1 (vo N 0) := ⟨_, rfl⟩
    obtain ⟨B, hB⟩ : ∃ B, B = vo N 6 := ⟨_, rfl⟩
    have oA : vOk A := by rw [hA]; exact passV_ok (vo_ok N 0) (by decide)
    have oB : vOk B := by rw [hB]; exact vo_ok N 6
    rw [← hA, ← hB] at hl
    subst hl
    obtain ⟨G, hG⟩ : ∃ G, G = A ++ passV 1 B := ⟨_, rfl⟩
    have hI : ∀ z : Int × List Int, z.1 = 2 → z.2 = G → (z.1 = 0 ∧ z.2 = vo N 0 ++ vo N 6) ∨ (z.1 = 1 ∧ z.2 = passV 1 (vo N 0) ++ vo N 6) ∨ (z.1 = 2 ∧ z.2 = passV 1 (vo N 0) ++ passV 1 (vo N 6)) := by
      intro z h1 h2
      rw [h1, h2, hG, hA, hB]
      exact .inr (.inr ⟨rfl, rfl⟩)
    clear hA hB
    cases oA with
    | mk hp hv hr hc hf hw =>
    cases oB with
    | mk hp' hv' hr' hc' hf' hw' =>
    rename_i p' v' r' c' f' w' p v r c f w
    repeat' first
      | (refine Go.mk ?_; conv => whnf)
      | refine Need.go ?_ ?_
      | refine NilG.go (fun _ => ?_) (fun _ => ?_)
      | refine Br.dec (fun _ => ?_) (fun _ => ?_)
      | refine Br.go (fun _ => ?_) (fun _ => ?_)
      | refine draw_go hT hP mixed ?_
      | refine round_go hT hP ?_
    all_goals first
      | exact of_decide_eq_true rfl
      | (exfalso; rename_i h; revert h; decide)
      | skip
    all_goals
      apply Exists.intro (_, G)
      refine And.intro ?_ (And.intro ?_ (Le.mk [] [0, 1, 2, 3] rfl rfl (heap4 ?_) ?ht))
      case ht => repeat' first | exact trivial | exact ⟨rfl, rfl⟩ | refine And.intro ?_ ?_
    all_goals first
      | exact hI (IntKind.i64.wrap (1 + 1), G) rfl rfl
      | (show (2 - IntKind.i64.wrap (1 + 1)).toNat < (2 - (1 : Int)).toNat
         decide)
      | (rw [hG]
         have ew1 : IntKind.i64.wrap (c + 1) = c + 1 := w64 (by omega) (by omega)
         have ew2 : IntKind.i64.wrap (1 - f) = 1 - f := w64 (by omega) (by omega)
         have ew3 : IntKind.i64.wrap (w + 1) = w + 1 := w64 (by omega) (by omega)
         have ew4 : IntKind.i64.wrap (64 * r) = r * 64 := by rw [w64 (by omega) (by omega), Int.mul_comm]
         have ew5 : IntKind.i64.wrap (v - 1) = v - 1 := w64 (by omega) (by omega)
         clear hT hP hp hI hG
         simp [ew1, ew2, ew3, ew4, ew5] at *
         try simp [passV, *]
         (repeat' first | refine And.intro ?_ ?_ | intro _)
         all_goals first | omega | (exfalso; omega))
      | skip
  · subst hl
    repeat' first
      | (refine Go.mk ?_; conv => whnf)
      | refine Need.go ?_ ?_
      | refine NilG.go (fun _ => ?_) (fun _ => ?_)
      | refine Br.dec (fun _ => ?_) (fun _ => ?_)
      | refine Br.go (fun _ => ?_) (fun _ => ?_)
      | refine draw_go hT hP mixed ?_
      | refine round_go hT hP ?_
    all_goals first
      | exact of_decide_eq_true rfl
      | (exfalso; rename_i h; revert h; decide)
      | (refine .mk [] [2] _ rfl rfl rfl rfl rfl (blk_eqs ?_) rfl
         show passV 1 (vo N 0) ++ passV 1 (vo N 6) = tickW (vo N 0 ++ vo N 6)
         rw [tickW_app rfl])
      | skip

end Go.Proofs.Ytblnigjmcjpopaa

/- The chip with two voices, by the document: how long it rests. -/
namespace Go.Proofs.Ytblnigjmcjpopaa
open Go.Fw
set_option linter.unusedVariables false
set_option linter.unusedSimpArgs false
set_option maxRecDepth 100000

theorem mul_pos2 {v r : Int} (hv : 0 ≤ v ∧ v < 16) (hr : 0 ≤ r ∧ r < 256) : (0 < v * r) = (0 < r ∧ 0 < v) := by
  apply propext
  constructor
  · intro h
    by_cases h1 : v = 0
    · rw [h1, Int.zero_mul] at h; omega
    · by_cases h2 : r = 0
      · rw [h2, Int.mul_zero] at h; omega
      · omega
  · rintro ⟨h1, h2⟩
    exact Int.mul_pos h2 h1
theorem mul_in2 {v r : Int} (hv : 0 ≤ v ∧ v < 16) (hr : 0 ≤ r ∧ r < 256) : 0 ≤ v * r ∧ v * r < 4096 := by
  refine ⟨Int.mul_nonneg hv.1 hr.1, ?_⟩
  have h1 : v * r ≤ 15 * r := Int.mul_le_mul_of_nonneg_right (by omega) hr.1
  omega
theorem decrec_ite {p : Prop} (a b : Int) (i : Decidable p) : (Decidable.rec (motive := fun _ => Int) (fun _ => a) (fun _ => b) i) = if p then b else a := by cases i <;> simp [*]
theorem quiet_min {p v r c f w : Int} : quietV [p, v, r, c, f, w] = min (if p > 0 then max 1 (p - c) - 1 else 100000) (if r > 0 ∧ v > 0 then max 1 (r * 64 - w) - 1 else 100000) := rfl
def orestsS : PSpec := ⟨[gC, gD], fun (c, d, _) => (some (c.2.1 = 7), I (onextF d.1), [])⟩
end Go.Proofs.Ytblnigjmcjpopaa

/- The processor: what it asks of the bus. -/
namespace Go.Proofs.Ytblnigjmcjpopaa
open Go.Fw
set_option linter.unusedVariables false
set_option linter.unusedSimpArgs false
set_option maxRecDepth 100000

abbrev StepT : Ty := .pair (.int .i64) (.pair (.int .i64) (.pair (.int .i64) (.int .i64)))
abbrev CycT : Ty := .pair (.int .i64) (.pair (.int .i64) (.pair (.int .i64) (.sl StepT)))
abbrev InsT : Ty := .pair (.int .i64) (.pair .str (.pair (.int .i64) (.sl CycT)))
abbrev CpuT : Ty := .pair .str (.pair (.sl InsT) (.pair (.sl CycT) (.pair (.sl CycT) (.sl CycT))))
abbrev CoreT : Ty := .pair (.ints .i64 9) (.pair (.int .i64) (.pair (.int .i64) .bool))
abbrev gR : Sig := ⟨true, .ints .i64 9⟩
abbrev gCpu : Sig := ⟨true, CpuT⟩
abbrev gK : Sig := ⟨true, CoreT⟩
abbrev gB : Sig := ⟨false, .bool⟩
abbrev Stp := Int × Int × Int × Int
abbrev Cyc := Int × Int × Int × List Stp
abbrev Ins := Int × ByteArray × Int × List Cyc
abbrev Cpu := ByteArray × List Ins × List Cyc × List Cyc × List Cyc
abbrev Kor := List Int × Int × Int × Bool

theorem w64e (x : Int) : IntKind.i64.wrap x = (x + 9223372036854775808) % 18446744073709551616 - 9223372036854775808 := by
  rw [IntKind.wrap_i64]
theorem up_i {k : Nat} (h : k ≤ 4611686018427387904) : IntKind.i64.wrap ((k : Int) + 1) = ((k + 1 : Nat) : Int) := by
  rw [w64 (by omega) (by omega)]; omega
theorem tmodE (x k : Int) : x.tmod k = if 0 ≤ x then x % k else -((-x) % k) := by
  split
  · rename_i h; exact Int.tmod_eq_emod_of_nonneg h
  · rename_i h
    have := Int.neg_tmod (-x) k
    rw [Int.neg_neg] at this
    rw [this, Int.tmod_eq_emod_of_nonneg (by omega)]
theorem tdivE (x k : Int) : x.tdiv k = if 0 ≤ x then x / k else -((-x) / k) := by
  split
  · rename_i h; exact Int.tdiv_eq_ediv_of_nonneg h
  · rename_i h
    have := Int.neg_tdiv (-x) k
    rw [Int.neg_neg] at this
    rw [this, Int.tdiv_eq_ediv_of_nonneg (by omega)]
def fitR (l : List Int) : List Int := [l.getD 0 0 % 256, l.getD 1 0 % 256, l.getD 2 0 % 256, l.getD 3 0 % 256, l.getD 4 0 % 256, l.getD 5 0 % 256, l.getD 6 0 % 256, l.getD 7 0 % 65536, l.getD 8 0 % 65536]
theorem nine {l : List Int} (h : l.length = 9) : ∃ a b c d e f g h i, l = [a, b, c, d, e, f, g, h, i] := by
  match l, h with
  | [a, b, c, d, e, f, g, h, i], _ => exact ⟨a, b, c, d, e, f, g, h, i, rfl⟩
theorem agg9 {l l' : List Int} (h : l = l') : AV.agg [.run .i64 9 l] = AV.agg [.run .i64 9 l'] := by rw [h]

def wideB (r : Int) : Bool := decide (r = 7 ∨ r = 8)
def narrowB (r : Int) : Bool := decide (0 ≤ r ∧ r ≤ 6)
def wideS : PSpec := ⟨[gi], fun (r, _) => (none, .cell (bv (wideB r)), [])⟩
def narrowS : PSpec := ⟨[gi], fun (r, _) => (none, .cell (bv (narrowB r)), [])⟩
theorem tWide_ok : GoodF Try.prog 20 wideS.spec := by
  have hT := tab_ok (fs := []) tree_ok
  have hP : SpecsOk Try.prog (tab tree []) := specs_nil
  refine wideS.good (fn := Try.f20) hT hP Try.func20 (by kernel_rfl) rfl fun (r : Int) _ => ?_
  repeat' first
    | (refine Go.mk ?_; conv => whnf)
    | refine Need.go ?_ ?_
    | refine NilG.go (fun _ => ?_) (fun _ => ?_)
    | refine Br.dec (fun _ => ?_) (fun _ => ?_)
    | refine Br.go (fun _ => ?_) (fun _ => ?_)
    | refine draw_go hT hP mixed ?_
    | refine round_go hT hP ?_
  all_goals
    refine .mk [] [] _ rfl rfl rfl rfl rfl rfl (imm_bool ?_)
    show _ = wideB r
    simp_all [wideB] <;> first | rfl | omega
theorem rWide_ok : GoodF Try.prog 82 wideS.spec := by
  have hT := tab_ok (fs := []) tree_ok
  have hP : SpecsOk Try.prog (tab tree []) := specs_nil
  refine wideS.good (fn := Try.f82) hT hP Try.func82 (by kernel_rfl) rfl fun (r : Int) _ => ?_
  repeat' first
    | (refine Go.mk ?_; conv => whnf)
    | refine Need.go ?_ ?_
    | refine NilG.go (fun _ => ?_) (fun _ => ?_)
    | refine Br.dec (fun _ => ?_) (fun _ => ?_)
    | refine Br.go (fun _ => ?_) (fun _ => ?_)
    | refine draw_go hT hP mixed ?_
    | refine round_go hT hP ?_
  all_goals
    refine .mk [] [] _ rfl rfl rfl rfl rfl rfl (imm_bool ?_)
    show _ = wideB r
    simp_all [wideB] <;> first | rfl | omega
theorem rNarrow_ok : GoodF Try.prog 81 narrowS.spec := by
  have hT := tab_ok (fs := []) tree_ok
  have hP : SpecsOk Try.prog (tab tree []) := specs_nil
  refine narrowS.good (fn := Try.f81) hT hP Try.func81 (by kernel_rfl) rfl fun (r : Int) _ => ?_
  repeat' first
    | (refine Go.mk ?_; conv => whnf)
    | refine Need.go ?_ ?_
    | refine NilG.go (fun _ => ?_) (fun _ => ?_)
    | refine Br.dec (fun _ => ?_) (fun _ => ?_)
    | refine Br.go (fun _ => ?_) (fun _ => ?_)
    | refine draw_go hT hP mixed ?_
    | refine round_go hT hP ?_
  all_goals
    refine .mk [] [] _ rfl rfl rfl rfl rfl rfl (imm_bool ?_)
    show _ = narrowB r
    simp_all [narrowB] <;> first | rfl | omega

def aBitsS : PSpec := ⟨[gi], fun (r, _) => (none, I (cond (wideB r) 16 8), [])⟩
theorem aBits_ok : GoodF Try.prog 136 aBitsS.spec := by
  have hT := tab_ok (fs := [(20, wideS.spec)]) tree_ok
  have hP : SpecsOk Try.prog (tab tree [(20, wideS.spec)]) := specs_cons tWide_ok specs_nil
  refine aBitsS.good (fn := Try.f136) hT hP Try.func136 (by kernel_rfl) rfl fun (r : Int) _ => ?_
  repeat' first
    | (refine Go.mk ?_; conv => whnf)
    | refine Need.go ?_ ?_
    | refine NilG.go (fun _ => ?_) (fun _ => ?_)
    | refine Br.dec (fun _ => ?_) (fun _ => ?_)
    | refine Br.go (fun _ => ?_) (fun _ => ?_)
    | refine draw_go hT hP mixed ?_
    | refine round_go hT hP ?_
  · rename_i h
    refine .mk [] [] _ rfl rfl rfl rfl rfl rfl (imm_int ?_)
    show _ = cond (wideB r) 16 8
    rw [show wideB r = true from decide_eq_true h]; rfl
  · rename_i h
    refine .mk [] [] _ rfl rfl rfl rfl rfl rfl (imm_int ?_)
    show _ = cond (wideB r) 16 8
    rw [show wideB r = false from decide_eq_false h]; rfl

def fitS : PSpec := ⟨[gR], fun (l, _) => (some (List.length l = 9), .agg [.run .i64 9 (fitR l)], [])⟩
theorem aFit_ok : GoodF Try.prog 71 fitS.spec := by
  have hT := tab_ok (fs := [(136, aBitsS.spec), (70, lowM.spec)]) tree_ok
  have hP : SpecsOk Try.prog (tab tree [(136, aBitsS.spec), (70, lowM.spec)]) := specs_cons aBits_ok (specs_cons lowM_ok specs_nil)
  refine fitS.good (fn := Try.f71) hT hP Try.func71 (by kernel_rfl) rfl fun (l : List Int) hp => ?_
  have hp : l.length = 9 := hp _ rfl
  obtain ⟨a, b, c, d, e, f, g, h, i, rfl⟩ := nine hp
  repeat' first
    | (refine Go.mk ?_; conv => whnf)
    | refine Need.go ?_ ?_
    | refine NilG.go (fun _ => ?_) (fun _ => ?_)
    | refine Br.dec (fun _ => ?_) (fun _ => ?_)
    | refine Br.go (fun _ => ?_) (fun _ => ?_)
    | refine draw_go hT hP mixed ?_
    | refine round_go hT hP ?_
  refine loop_unroll 10 ?_
  repeat' first
    | (refine Go.mk ?_; conv => whnf)
    | refine Need.go ?_ ?_
    | refine NilG.go (fun _ => ?_) (fun _ => ?_)
    | refine Br.dec (fun _ => ?_) (fun _ => ?_)
    | refine Br.go (fun _ => ?_) (fun _ => ?_)
    | refine draw_go hT hP mixed ?_
    | refine round_go hT hP ?_
  all_goals first
    | exact of_decide_eq_true rfl
    | exact .mk [] [] _ rfl rfl rfl rfl rfl rfl rfl

theorem rFit_ok : GoodF Try.prog 77 fitS.spec := by
  have hT := tab_ok (fs := [(82, wideS.spec), (76, modS.spec)]) tree_ok
  have hP : SpecsOk Try.prog (tab tree [(82, wideS.spec), (76, modS.spec)]) := specs_cons rWide_ok (specs_cons mod_ok specs_nil)
  refine fitS.good (fn := Try.f77) hT hP Try.func77 (by kernel_rfl) rfl fun (l : List Int) hp => ?_
  have hp : l.length = 9 := hp _ rfl
  obtain ⟨a, b, c, d, e, f, g, h, i, rfl⟩ := nine hp
  repeat' first
    | (refine Go.mk ?_; conv => whnf)
    | refine Need.go ?_ ?_
    | refine NilG.go (fun _ => ?_) (fun _ => ?_)
    | refine Br.dec (fun _ => ?_) (fun _ => ?_)
    | refine Br.go (fun _ => ?_) (fun _ => ?_)
    | refine draw_go hT hP mixed ?_
    | refine round_go hT hP ?_
  refine loop_unroll 10 ?_
  repeat' first
    | (refine Go.mk ?_; conv => whnf)
    | refine Need.go ?_ ?_
    | refine NilG.go (fun _ => ?_) (fun _ => ?_)
    | refine Br.dec (fun _ => ?_) (fun _ => ?_)
    | refine Br.go (fun _ => ?_) (fun _ => ?_)
    | refine draw_go hT hP mixed ?_
    | refine round_go hT hP ?_
  all_goals first
    | exact of_decide_eq_true rfl
    | exact .mk [] [] _ rfl rfl rfl rfl rfl rfl rfl

-- places

def fixF (a : Int) : Int := ([65534, 65535, 65530, 65531, 65532, 65533] : List Int).getD (a - 6).toNat 0
def plA (a : Int) (r : List Int) : Int :=
  if a = 0 ∨ a = 1 then r.getD 7 0 else if a = 2 then r.getD 8 0 else if a = 3 then (r.getD 8 0 + 1) % 65536 else if a = 4 then 256 + r.getD 3 0 else if a = 5 then 256 + (r.getD 3 0 + 1) % 256
  else if a < 0 ∨ a ≥ 12 then 0 else fixF a
def plR (a : Int) (r : List Int) : List Int :=
  if a = 0 then r.set 7 ((r.getD 7 0 + 1) % 65536) else if a = 4 then r.set 3 ((r.getD 3 0 - 1) % 256) else if a = 5 then r.set 3 ((r.getD 3 0 + 1) % 256) else r
theorem tupR {x y : Int} {l l' : List Int} (h : x = y) (h2 : l = l') : AV.tup [I1 x, .agg [.run .i64 9 l]] = AV.tup [I1 y, .agg [.run .i64 9 l']] := by rw [h, h2]

def fixS : PSpec := ⟨[gi], fun (a, _) => (some (6 ≤ a ∧ a < 12), I (fixF a), [])⟩
def placeRS : PSpec := ⟨[gi, gR], fun (a, r, _) => (some (∃ q, r = fitR q), .tup [I1 (plA a r), .agg [.run .i64 9 (plR a r)]], [])⟩
def addrS : PSpec := ⟨[gi, gR], fun (a, r, _) => (some (∃ q, r = fitR q), .tup [I1 (plA a r), .agg [.run .i64 9 (plR a r)]], [])⟩
def cycP (op : Int) (x : Ins) : Bool := decide (x.1 = op ∧ 0 ≤ op ∧ op ≤ 255)
def cycF (c : Cpu) (op : Int) : List Cyc :=
  if op = 256 then c.2.2.2.1 else if op = 257 then c.2.2.2.2 else if op = 258 then c.2.2.1 else match c.2.1.find? (cycP op) with | some x => x.2.2.2 | none => []
theorem find_at {α : Type} {l : List α} {p : α → Bool} {k : Nat} (d : α) (h0 : (l.take k).find? p = none) (h : k < l.length) (hp : p (l.getD k d) = true) : l.find? p = some (l.getD k d) := by
  have e : l = l.take k ++ l.drop k := (List.take_append_drop k l).symm
  have e2 : l.drop k = l.getD k d :: l.drop (k + 1) := by
    rw [List.drop_eq_getElem_cons h]; simp [h]
  have : (l.take k ++ l.drop k).find? p = some (l.getD k d) := by
    rw [List.find?_append, h0, e2, List.find?_cons, hp]; rfl
  rwa [List.take_append_drop] at this
theorem find_step {α : Type} {l : List α} {p : α → Bool} {k : Nat} (d : α) (h0 : (l.take k).find? p = none) (h : k < l.length) (hp : p (l.getD k d) = false) : (l.take (k + 1)).find? p = none := by
  have e2 : l.getD k d = l[k] := by simp [h]
  rw [e2] at hp
  rw [List.take_succ_eq_append_getElem h, List.find?_append, h0]
  simp [hp]
theorem find_end {α : Type} {l : List α} {p : α → Bool} {k : Nat} (h0 : (l.take k).find? p = none) (h : l.length ≤ k) : l.find? p = none := by
  rwa [List.take_of_length_le h] at h0
def cycS : PSpec := ⟨[gCpu, gi], fun (c, op, _) => (some (List.length c.2.1 ≤ 4611686018427387904), .cell (.ro CycT (cycF c op)), [])⟩
theorem cyc_ok : GoodF Try.prog 75 cycS.spec := by
  have hT := tab_ok (fs := []) tree_ok
  have hP : SpecsOk Try.prog (tab tree []) := specs_nil
  refine cycS.good (fn := Try.f75) hT hP Try.func75 (by kernel_rfl) rfl fun (c : Cpu) (op : Int) hp => ?_
  obtain ⟨cn, ci, cr, cq, cm⟩ := c
  have hp : ci.length ≤ 4611686018427387904 := hp _ rfl
  repeat' first
    | (refine Go.mk ?_; conv => whnf)
    | refine Need.go ?_ ?_
    | refine NilG.go (fun _ => ?_) (fun _ => ?_)
    | refine Br.dec (fun _ => ?_) (fun _ => ?_)
    | refine Br.go (fun _ => ?_) (fun _ => ?_)
    | refine draw_go hT hP mixed ?_
    | refine round_go hT hP ?_
  · rename_i h
    refine .mk [] [] _ rfl rfl rfl rfl rfl rfl (ro_eq ?_)
    simp_all [cycF]
  · rename_i h
    refine .mk [] [] _ rfl rfl rfl rfl rfl rfl (ro_eq ?_)
    simp_all [cycF]
  · rename_i h
    refine .mk [] [] _ rfl rfl rfl rfl rfl rfl (ro_eq ?_)
    simp_all [cycF]
  rename_i n1 n2 n3
  have n1 : ¬ op = 256 := n1
  have n2 : ¬ op = 257 := n2
  have n3 : ¬ op = 258 := n3
  have hF : cycF (cn, ci, cr, cq, cm) op = match ci.find? (cycP op) with | some x => x.2.2.2 | none => [] := by
    unfold cycF; rw [if_neg n1, if_neg n2, if_neg n3]
  refine up_go hT hP (A := Unit) ci.length (fun i _ => St.mk [.dead, I op, .dead, .dead, .dead, .dead, .dead, .dead, .dead, .dead, .dead, .dead, .dead, .dead, .dead, .dead, .dead, .dead, .dead, .dead, .dead, .cell (.ro InsT ci), I ci.length, I i, .dead, .dead, .dead, .dead, .dead, .dead, .dead, .dead, .dead, .dead, .dead, .dead, .dead, .dead, .dead, .dead, .dead, .dead] [])
    (fun k _ => (ci.take k).find? (cycP op) = none) () (Le.mk [] [] rfl rfl rfl ?_) (by simp) fun k _ hk hi => ?_
  rotate_right
  repeat' first
    | (refine Go.mk ?_; conv => whnf)
    | refine Need.go ?_ ?_
    | refine NilG.go (fun _ => ?_) (fun _ => ?_)
    | refine Br.dec (fun _ => ?_) (fun _ => ?_)
    | refine Br.go (fun _ => ?_) (fun _ => ?_)
    | refine draw_go hT hP mixed ?_
    | refine round_go hT hP ?_
  all_goals (try (dsimp only [gi, Den] at *; omega))
  · rename_i g1 g2 g3 g4
    have hlt : k < ci.length := by omega
    refine .mk [] [] _ rfl rfl rfl rfl rfl rfl (ro_eq ?_)
    show _ = cycF (cn, ci, cr, cq, cm) op
    rw [hF, find_at (dflt InsT) hi hlt (decide_eq_true ⟨g2, g3, g4⟩)]; rfl
  · rename_i g1 g2 g3 g4
    have hlt : k < ci.length := by omega
    apply Exists.intro
    apply Exists.intro ()
    refine And.intro (And.intro ?lt326 (And.intro ?ei326 ?inv326)) (Le.mk [] [] rfl rfl ?hh326 ?ht326)
    case hh326 => exact rfl
    case ht326 => repeat' first | exact trivial | exact ⟨rfl, rfl⟩ | refine And.intro ?_ ?_
    case lt326 => omega
    case ei326 => exact up_i (by omega)
    exact find_step (dflt InsT) hi hlt (decide_eq_false fun h => g4 h.2.2)
  · rename_i g1 g2 g3
    have hlt : k < ci.length := by omega
    apply Exists.intro
    apply Exists.intro ()
    refine And.intro (And.intro ?lt336 (And.intro ?ei336 ?inv336)) (Le.mk [] [] rfl rfl ?hh336 ?ht336)
    case hh336 => exact rfl
    case ht336 => repeat' first | exact trivial | exact ⟨rfl, rfl⟩ | refine And.intro ?_ ?_
    case lt336 => omega
    case ei336 => exact up_i (by omega)
    exact find_step (dflt InsT) hi hlt (decide_eq_false fun h => g3 h.2.1)
  · rename_i g1 g2
    have hlt : k < ci.length := by omega
    apply Exists.intro
    apply Exists.intro ()
    refine And.intro (And.intro ?lt346 (And.intro ?ei346 ?inv346)) (Le.mk [] [] rfl rfl ?hh346 ?ht346)
    case hh346 => exact rfl
    case ht346 => repeat' first | exact trivial | exact ⟨rfl, rfl⟩ | refine And.intro ?_ ?_
    case lt346 => omega
    case ei346 => exact up_i (by omega)
    exact find_step (dflt InsT) hi hlt (decide_eq_false fun h => g2 h.1)
  · rename_i g1
    refine .le (Le.nilro 4 CycT rfl) (.mk [] [] _ rfl rfl rfl rfl rfl rfl (ro_eq ?_))
    show _ = cycF (cn, ci, cr, cq, cm) op
    rw [hF, find_end hi (by omega)]
  · repeat' first | exact trivial | exact ⟨rfl, rfl⟩ | refine And.intro ?_ ?_

theorem cycOf_ok : GoodF Try.prog 80 cycS.spec := by
  have hT := tab_ok (fs := []) tree_ok
  have hP : SpecsOk Try.prog (tab tree []) := specs_nil
  refine cycS.good (fn := Try.f80) hT hP Try.func80 (by kernel_rfl) rfl fun (c : Cpu) (op : Int) hp => ?_
  obtain ⟨cn, ci, cr, cq, cm⟩ := c
  have hp : ci.length ≤ 4611686018427387904 := hp _ rfl
  repeat' first
    | (refine Go.mk ?_; conv => whnf)
    | refine Need.go ?_ ?_
    | refine NilG.go (fun _ => ?_) (fun _ => ?_)
    | refine Br.dec (fun _ => ?_) (fun _ => ?_)
    | refine Br.go (fun _ => ?_) (fun _ => ?_)
    | refine draw_go hT hP mixed ?_
    | refine round_go hT hP ?_
  · rename_i h
    refine .mk [] [] _ rfl rfl rfl rfl rfl rfl (ro_eq ?_)
    simp_all [cycF]
  · rename_i h
    refine .mk [] [] _ rfl rfl rfl rfl rfl rfl (ro_eq ?_)
    simp_all [cycF]
  · rename_i h
    refine .mk [] [] _ rfl rfl rfl rfl rfl rfl (ro_eq ?_)
    simp_all [cycF]
  rename_i n1 n2 n3
  have n1 : ¬ op = 256 := n1
  have n2 : ¬ op = 257 := n2
  have n3 : ¬ op = 258 := n3
  have hF : cycF (cn, ci, cr, cq, cm) op = match ci.find? (cycP op) with | some x => x.2.2.2 | none => [] := by
    unfold cycF; rw [if_neg n1, if_neg n2, if_neg n3]
  refine up_go hT hP (A := Unit) ci.length (fun i _ => St.mk [.dead, I op, .cell (.ptr 0 0), .dead, .dead, .dead, .dead, .dead, .dead, .dead, .dead, .dead, .dead, .dead, .dead, .dead, .dead, .dead, .dead, .dead, .dead, I ci.length, I i, .dead, .dead, .dead, .dead, .dead, .dead, .dead, .dead, .dead, .dead, .dead, .dead, .dead, .dead, .dead, .dead, .dead, .dead, .dead, .dead, .dead, .dead, .dead, .dead, .dead] [some (.var [.imm (.string cn), .ro InsT ci, .ro CycT cr, .ro CycT cq, .ro CycT cm])])
    (fun k _ => (ci.take k).find? (cycP op) = none) () (Le.mk [] [0] rfl rfl rfl ?_) (by simp) fun k _ hk hi => ?_
  rotate_right
  repeat' first
    | (refine Go.mk ?_; conv => whnf)
    | refine Need.go ?_ ?_
    | refine NilG.go (fun _ => ?_) (fun _ => ?_)
    | refine Br.dec (fun _ => ?_) (fun _ => ?_)
    | refine Br.go (fun _ => ?_) (fun _ => ?_)
    | refine draw_go hT hP mixed ?_
    | refine round_go hT hP ?_
  all_goals (try (dsimp only [gi, Den] at *; omega))
  · rename_i g1 g2 g3 g4
    have hlt : k < ci.length := by omega
    refine .mk [] [] _ rfl rfl rfl rfl rfl rfl (ro_eq ?_)
    show _ = cycF (cn, ci, cr, cq, cm) op
    rw [hF, find_at (dflt InsT) hi hlt (decide_eq_true ⟨g2, g3, g4⟩)]; rfl
  · rename_i g1 g2 g3 g4
    have hlt : k < ci.length := by omega
    apply Exists.intro
    apply Exists.intro ()
    refine And.intro (And.intro ?lt408 (And.intro ?ei408 ?inv408)) (Le.mk [] [0] rfl rfl ?hh408 ?ht408)
    case hh408 => exact rfl
    case ht408 => repeat' first | exact trivial | exact ⟨rfl, rfl⟩ | refine And.intro ?_ ?_
    case lt408 => omega
    case ei408 => exact up_i (by omega)
    exact find_step (dflt InsT) hi hlt (decide_eq_false fun h => g4 h.2.2)
  · rename_i g1 g2 g3
    have hlt : k < ci.length := by omega
    apply Exists.intro
    apply Exists.intro ()
    refine And.intro (And.intro ?lt418 (And.intro ?ei418 ?inv418)) (Le.mk [] [0] rfl rfl ?hh418 ?ht418)
    case hh418 => exact rfl
    case ht418 => repeat' first | exact trivial | exact ⟨rfl, rfl⟩ | refine And.intro ?_ ?_
    case lt418 => omega
    case ei418 => exact up_i (by omega)
    exact find_step (dflt InsT) hi hlt (decide_eq_false fun h => g3 h.2.1)
  · rename_i g1 g2
    have hlt : k < ci.length := by omega
    apply Exists.intro
    apply Exists.intro ()
    refine And.intro (And.intro ?lt428 (And.intro ?ei428 ?inv428)) (Le.mk [] [0] rfl rfl ?hh428 ?ht428)
    case hh428 => exact rfl
    case ht428 => repeat' first | exact trivial | exact ⟨rfl, rfl⟩ | refine And.intro ?_ ?_
    case lt428 => omega
    case ei428 => exact up_i (by omega)
    exact find_step (dflt InsT) hi hlt (decide_eq_false fun h => g2 h.1)
  · rename_i g1
    refine .le (Le.nilro 4 CycT rfl) (.mk [] [] _ rfl rfl rfl rfl rfl rfl (ro_eq ?_))
    show _ = cycF (cn, ci, cr, cq, cm) op
    rw [hF, find_end hi (by omega)]
  · repeat' first | exact trivial | exact ⟨rfl, rfl⟩ | refine And.intro ?_ ?_

-- the next cycle

def cycD : Cyc := (0, 0, 0, [])
def canB (c : Cpu) (op at_ : Int) : Bool := !decide (op = -1) && (decide (0 ≤ at_) && decide (at_ < (cycF c op).length))
def doF (c : Cpu) (op at_ : Int) : Cyc := if canB c op at_ then (cycF c op).getD at_.toNat cycD else cycD
theorem tupDo {a b c : Int} {l : List Stp} {o : Bool} {x : Cyc} {o' : Bool} (h : (a, b, c, l) = x) (h2 : o = o') : AV.tup [.agg [iv .i64 a, iv .i64 b, iv .i64 c, .ro StepT l], .c (bv o)] = AV.tup [.agg [iv .i64 x.1, iv .i64 x.2.1, iv .i64 x.2.2.1, .ro StepT x.2.2.2], .c (bv o')] := by subst h; subst h2; rfl
def doingS : PSpec := ⟨[gCpu, gK], fun (c, k, _) => (some (List.length c.2.1 ≤ 4611686018427387904), .tup [.agg [iv .i64 (doF c k.2.1 k.2.2.1).1, iv .i64 (doF c k.2.1 k.2.2.1).2.1, iv .i64 (doF c k.2.1 k.2.2.1).2.2.1, .ro StepT (doF c k.2.1 k.2.2.1).2.2.2], .c (bv (canB c k.2.1 k.2.2.1))], [])⟩
theorem doing_ok : GoodF Try.prog 72 doingS.spec := by
  have hT := tab_ok (fs := [(75, cycS.spec)]) tree_ok
  have hP : SpecsOk Try.prog (tab tree [(75, cycS.spec)]) := specs_cons cyc_ok specs_nil
  refine doingS.good (fn := Try.f72) hT hP Try.func72 (by kernel_rfl) rfl fun (c : Cpu) (k : Kor) hp => ?_
  obtain ⟨cn, ci, cr, cq, cm⟩ := c
  obtain ⟨r, op, at_, n⟩ := k
  have hp : ci.length ≤ 4611686018427387904 := hp _ rfl
  repeat' first
    | (refine Go.mk ?_; conv => whnf)
    | refine Need.go ?_ ?_
    | refine NilG.go (fun _ => ?_) (fun _ => ?_)
    | refine Br.dec (fun _ => ?_) (fun _ => ?_)
    | refine Br.go (fun _ => ?_) (fun _ => ?_)
    | refine draw_go hT hP mixed ?_
    | refine round_go hT hP ?_
  all_goals (try (dsimp only [gi, Den] at *; omega))
  · exact hp
  · rename_i g
    have g : op = -1 := g
    have hc : canB (cn, ci, cr, cq, cm) op at_ = false := by unfold canB; rw [decide_eq_true g]; rfl
    refine .le (Le.nilroH 2 _ [iv .i64 0, iv .i64 0, iv .i64 0, .ro StepT []] rfl ⟨.inl rfl, .inl rfl, .inl rfl, .inr ⟨rfl, _, rfl⟩, trivial⟩) (.mk [] [] _ rfl rfl rfl rfl rfl rfl (tupDo ?_ hc.symm))
    show cycD = doF _ _ _
    unfold doF; rw [if_neg (by rw [hc]; decide)]
  · rename_i g g2
    have g2 : at_ < 0 := g2
    have hc : canB (cn, ci, cr, cq, cm) op at_ = false := by unfold canB; rw [decide_eq_false (show ¬ 0 ≤ at_ by omega)]; simp
    refine .le (Le.nilroH 2 _ [iv .i64 0, iv .i64 0, iv .i64 0, .ro StepT []] rfl ⟨.inl rfl, .inl rfl, .inl rfl, .inr ⟨rfl, _, rfl⟩, trivial⟩) (.mk [] [] _ rfl rfl rfl rfl rfl rfl (tupDo ?_ hc.symm))
    show cycD = doF _ _ _
    unfold doF; rw [if_neg (by rw [hc]; decide)]
  · rename_i g g2 g3
    have g3 : at_ ≥ ((cycF (cn, ci, cr, cq, cm) op).length : Int) := g3
    have hc : canB (cn, ci, cr, cq, cm) op at_ = false := by unfold canB; rw [decide_eq_false (show ¬ at_ < ((cycF (cn, ci, cr, cq, cm) op).length : Int) by omega)]; simp
    refine .le (Le.nilroH 2 _ [iv .i64 0, iv .i64 0, iv .i64 0, .ro StepT []] rfl ⟨.inl rfl, .inl rfl, .inl rfl, .inr ⟨rfl, _, rfl⟩, trivial⟩) (.mk [] [] _ rfl rfl rfl rfl rfl rfl (tupDo ?_ hc.symm))
    show cycD = doF _ _ _
    unfold doF; rw [if_neg (by rw [hc]; decide)]
  · rename_i g g2 g3
    have g : ¬ op = -1 := g
    have g2 : ¬ at_ < 0 := g2
    have g3 : ¬ at_ ≥ ((cycF (cn, ci, cr, cq, cm) op).length : Int) := g3
    have hc : canB (cn, ci, cr, cq, cm) op at_ = true := by unfold canB; rw [decide_eq_false g, decide_eq_true (show 0 ≤ at_ by omega), decide_eq_true (show at_ < ((cycF (cn, ci, cr, cq, cm) op).length : Int) by omega)]; rfl
    refine .mk [] [] _ rfl rfl rfl rfl rfl rfl (tupDo ?_ hc.symm)
    unfold doF; rw [if_pos hc]; rfl

-- what begins between two instructions

theorem fin256 (p : Int → Prop) [DecidablePred p] (h : ∀ n : Fin 256, p (n.val : Int)) (x : Int) (h1 : 0 ≤ x) (h2 : x < 256) : p x := by
  have := h ⟨x.toNat, by omega⟩
  have e : ((x.toNat : Nat) : Int) = x := by omega
  simpa [e] using this
theorem land4 : ∀ x : Int, 0 ≤ x → x < 256 → (decide (land .i64 x 4 = 0)) = decide (x / 4 % 2 = 0) := fin256 (fun x => (decide (land .i64 x 4 = 0)) = decide (x / 4 % 2 = 0)) (by decide +kernel)
def startF (c : Cpu) (k : Kor) (irq : Bool) : Kor :=
  if (k.2.2.2 && decide (0 < c.2.2.2.2.length)) = true then (k.1, 257, 0, false) else if (irq && (decide (k.1.getD 4 0 / 4 % 2 = 0) && decide (0 < c.2.2.2.1.length))) = true then (k.1, 256, 0, k.2.2.2) else k
theorem aggK {r : List Int} {a b : Int} {n : Bool} {x : Kor} (h : (r, a, b, n) = x) : AV.agg [.run .i64 9 r, iv .i64 a, iv .i64 b, bv n] = AV.agg [.run .i64 9 x.1, iv .i64 x.2.1, iv .i64 x.2.2.1, bv x.2.2.2] := by subst h; rfl
def startS : PSpec := ⟨[gCpu, gK, gB], fun (c, k, i, _) => (some (List.length c.2.1 ≤ 4611686018427387904 ∧ ∃ q, k.1 = fitR q), .agg [.run .i64 9 (startF c k i).1, iv .i64 (startF c k i).2.1, iv .i64 (startF c k i).2.2.1, bv (startF c k i).2.2.2], [])⟩
end Go.Proofs.Ytblnigjmcjpopaa

/- Names: what counts as one. -/
namespace Go.Proofs.Ytblnigjmcjpopaa
open Go.Fw
set_option linter.unusedVariables false
set_option linter.unusedSimpArgs false
set_option linter.constructorNameAsVariable false
set_option maxRecDepth 100000

abbrev gStr : Sig := ⟨false, .str⟩
def letB (c : Int) : Bool := decide ((97 ≤ c ∧ c ≤ 122) ∨ (48 ≤ c ∧ c ≤ 57) ∨ c = 45)
def nameB (l : List Int) : Bool := decide (l.length ≠ 0 ∧ l.length ≤ 20 ∧ 97 ≤ l.getD 0 0 ∧ l.getD 0 0 ≤ 122) && l.all letB
theorem bytes_len (s : ByteArray) : (bytesOf s).length = s.size := by
  unfold bytesOf
  rw [List.length_map, Array.length_toList]; rfl
theorem byte_at (s : ByteArray) (i : Nat) : byteAt s i = (bytesOf s).getD i 0 := by
  unfold byteAt bytesOf
  rw [List.getD_eq_getElem?_getD, List.getD_eq_getElem?_getD, List.getElem?_map]
  cases s.data.toList[i]? <;> rfl
theorem bytes_in (s : ByteArray) : ∀ c ∈ bytesOf s, 0 ≤ c ∧ c < 256 := by
  intro c hc
  unfold bytesOf at hc
  obtain ⟨b, _, rfl⟩ := List.mem_map.1 hc
  have := b.toNat_lt
  omega
theorem strEq_nil {s : ByteArray} : strEq s ⟨#[]⟩ = decide ((bytesOf s).length = 0) := by
  unfold strEq bytesOf
  rw [ByteArray.toList_eq, ByteArray.toList_eq, List.length_map]
  cases s.data.toList with
  | nil => rfl
  | cons a r => rfl
theorem name_no {l : List Int} (h : l.length = 0 ∨ l.length > 20 ∨ l.getD 0 0 < 97 ∨ l.getD 0 0 > 122 ∨ l.all letB = false) : nameB l = false := by
  unfold nameB
  by_cases h2 : l.all letB = false
  · rw [h2, Bool.and_false]
  · rw [decide_eq_false (by rcases h with h | h | h | h | h <;> first | omega | exact absurd h h2), Bool.false_and]
theorem all_take {l : List Int} {k : Nat} (h : k < l.length) (h1 : (l.take k).all letB = true) (h2 : letB (l.getD k 0) = true) : (l.take (k + 1)).all letB = true := by
  rw [List.getD_eq_getElem?_getD, List.getElem?_eq_getElem h] at h2
  rw [List.take_add_one, List.all_append, h1, List.getElem?_eq_getElem h]
  simpa using h2
theorem all_no {l : List Int} {k : Nat} (h : k < l.length) (h2 : letB (l.getD k 0) = false) : l.all letB = false := by
  rw [List.getD_eq_getElem?_getD, List.getElem?_eq_getElem h] at h2
  rw [← Bool.not_eq_true]
  intro e
  have := List.all_eq_true.1 e _ (List.getElem_mem h)
  have h2 : letB l[k] = false := h2
  rw [h2] at this
  cases this
def nameS : PSpec := ⟨[gStr], fun (s, _) => (none, .cell (bv (nameB (bytesOf s))), [])⟩
theorem tName_ok : GoodF Try.prog 85 nameS.spec := by
  have hT := tab_ok (fs := []) tree_ok
  have hP : SpecsOk Try.prog (tab tree []) := specs_nil
  refine nameS.good (fn := Try.f85) hT hP Try.func85 (by kernel_rfl) rfl fun (s : ByteArray) _ => ?_
  repeat' first
    | (refine Go.mk ?_; conv => whnf)
    | refine Need.go ?_ ?_
    | refine NilG.go (fun _ => ?_) (fun _ => ?_)
    | refine Br.dec (fun _ => ?_) (fun _ => ?_)
    | refine Br.go (fun _ => ?_) (fun _ => ?_)
    | refine draw_go hT hP mixed ?_
    | refine round_go hT hP ?_
  all_goals first
    | exact of_decide_eq_true rfl
    | skip
  all_goals (have hL := bytes_len s)
  all_goals (simp only [strEq_nil, byte_at] at *)
  all_goals (have h0 : Int.toNat 0 = 0 := rfl)
  all_goals (try simp only [h0] at *)
  all_goals first
    | (rename_i h
       have h := of_decide_eq_true h
       exact .mk [] [] _ rfl rfl rfl rfl rfl rfl (imm_bool (name_no (.inl h)).symm))
    | (have h : (s.size : Int) > 20 := by assumption
       refine .mk [] [] _ rfl rfl rfl rfl rfl rfl (imm_bool (name_no (.inr (.inl ?_))).symm)
       rw [hL]
       omega)
    | (have h1 : decide ((bytesOf s).length = 0) = false := by assumption
       have h1 := of_decide_eq_false h1
       show 0 ≤ (0 : Int) ∧ (0 : Int) < (s.size : Int)
       omega)
    | (rename_i h
       exact .mk [] [] _ rfl rfl rfl rfl rfl rfl (imm_bool (name_no (.inr (.inr (.inl h)))).symm))
    | (rename_i h
       exact .mk [] [] _ rfl rfl rfl rfl rfl rfl (imm_bool (name_no (.inr (.inr (.inr (.inl h))))).symm))
    | skip
  have g1 : decide ((bytesOf s).length = 0) = false := by assumption
  have g1 := of_decide_eq_false g1
  have g2 : ¬ (s.size : Int) > 20 := by assumption
  have g3 : ¬ (bytesOf s).getD 0 0 < 97 := by assumption
  have g4 : ¬ (bytesOf s).getD 0 0 > 122 := by assumption
  have hF : nameB (bytesOf s) = (bytesOf s).all letB := by
    unfold nameB
    rw [decide_eq_true ⟨g1, by omega, by omega, by omega⟩, Bool.true_and]
  refine up_go hT hP (A := Unit) (bytesOf s).length (fun i _ => St.mk [.dead, .dead, .dead, .dead, .dead, .dead, .dead, .dead, .dead, .dead, .dead, .dead, .dead, .dead, .dead, .dead, .dead, .dead, .dead, .dead, .dead, .dead, .dead, .cell (.ro (.int .u8) (bytesOf s)), I ((bytesOf s).length : Int), I i, .dead, .dead, .dead, .dead, .dead, .dead, .dead, .dead, .dead, .dead, .dead, .dead, .dead, .dead, .dead, .dead, .dead, .dead, .dead, .dead, .dead, .dead, .dead] [])
    (fun k _ => ((bytesOf s).take k).all letB = true) () (Le.mk [] [] rfl rfl rfl ?_) (by simp) fun k _ hk hi => ?_
  · repeat' first | exact trivial | exact ⟨rfl, rfl⟩ | refine And.intro ?_ ?_
  repeat' first
    | (refine Go.mk ?_; conv => whnf)
    | refine Need.go ?_ ?_
    | refine NilG.go (fun _ => ?_) (fun _ => ?_)
    | refine Br.dec (fun _ => ?_) (fun _ => ?_)
    | refine Br.go (fun _ => ?_) (fun _ => ?_)
    | refine draw_go hT hP mixed ?_
    | refine round_go hT hP ?_
  all_goals
    have ec : List.getD (α := Den (.int .u8)) (bytesOf s) ((k : Int)).toNat (dflt (.int .u8)) = (bytesOf s).getD k 0 := rfl
    try simp only [ec] at *
    clear ec
  all_goals clear hT hP
  all_goals
    generalize hc : (bytesOf s).getD k 0 = c at *
  all_goals (try simp only [cond_false, Bool.not_eq_true', Bool.not_eq_false', beq_iff_eq, beq_eq_false_iff_ne] at *)
  have hlen : (bytesOf s).length ≤ 20 := by omega
  all_goals first
    | exact of_decide_eq_true rfl
    | (show 0 ≤ (k : Int) ∧ (k : Int) < ((bytesOf s).length : Int)
       omega)
    | (have hb : letB c = false := decide_eq_false (by omega)
       refine .mk [] [] _ rfl rfl rfl rfl rfl rfl (imm_bool ?_)
       rw [hF, all_no (k := k) (by omega) (by rw [hc]; exact hb)])
    | (have hb : letB c = true := decide_eq_true (by omega)
       apply Exists.intro
       apply Exists.intro ()
       refine And.intro (And.intro ?lt (And.intro ?ei ?inv)) (Le.mk [] [] rfl rfl ?hh ?ht)
       case hh => exact rfl
       case ht => repeat' first | exact trivial | exact ⟨rfl, rfl⟩ | refine And.intro ?_ ?_
       case lt => omega
       case ei => exact up_i (by omega)
       case inv => exact all_take (by omega) hi (by rw [hc]; exact hb))
    | (refine .mk [] [] _ rfl rfl rfl rfl rfl rfl (imm_bool ?_)
       rw [hF]
       rw [List.take_of_length_le (by omega)] at hi
       exact hi.symm)
    | skip
  all_goals trace_state

end Go.Proofs.Ytblnigjmcjpopaa

/- Where a byte is in a text; what counts as a name, for the reference. -/
namespace Go.Proofs.Ytblnigjmcjpopaa
open Go.Fw
set_option linter.unusedVariables false
set_option linter.unusedSimpArgs false
set_option linter.constructorNameAsVariable false
set_option maxRecDepth 100000

abbrev gu8 : Sig := ⟨false, .int .u8⟩
set_option maxHeartbeats 1000000 in
theorem idxb_run (s : ByteArray) (c : Int) (w : World) :
    Calls Try.prog 152 #[.string s, .int .u8 c] w fun e w' => e = .returned (.int .i64 (Lib.indexByte s.data.toList c.toNat.toUInt8)) ∧ w' = w := by
  have mixed : Try.prog.follows .mixedOrders = true := mixed
  go_enter Try.func152, Try.ntmps152
  go_wp2
  rw [run_callFunc_extern Try.func191 (by kernel_rfl) (by kernel_rfl) (by kernel_rfl) (e := Extern.BytealgIndexByte.indexByte) (by kernel_rfl), Lib.run_indexByteString]
  simp only [Result.andThen]
  rw [Oper.upon_value]
  go_wp2
  go_ret
  exact ⟨rfl, rfl⟩
def idxbS : PSpec := ⟨[gStr, gu8], fun (s, c, _) => (none, I (Lib.indexByte s.data.toList (Int.toNat c).toUInt8), [])⟩
theorem idxb_ok : GoodF Try.prog 152 idxbS.spec := by
  refine PSpec.of_calls Try.func152 (by kernel_rfl) rfl idxbS (fun _ => rfl) fun E (s, c, _) vs hv _ => ?_
  obtain ⟨v1, r1, e1, ⟨h1, _⟩, v2, r2, e2, ⟨h2, _⟩, h3⟩ := hv
  injection h1 with h1
  injection h2 with h2
  have h3 : r2 = [] := h3
  have e : vs = #[.string s, .int .u8 c] := by
    apply Array.ext'
    rw [e1, e2, h3, h1, h2]
  subst e
  refine (idxb_run s c E.w).mono ?_
  rintro e w' ⟨rfl, rfl⟩
  exact ⟨⟨_, rfl, rfl, rfl⟩, rfl⟩
theorem sIndexByte_ok : GoodF Try.prog 90 idxbS.spec := by
  have hT := tab_ok (fs := [(152, idxbS.spec)]) tree_ok
  have hP : SpecsOk Try.prog (tab tree [(152, idxbS.spec)]) := specs_cons idxb_ok specs_nil
  refine idxbS.good (fn := Try.f90) hT hP Try.func90 (by kernel_rfl) rfl fun (s : ByteArray) (c : Int) _ => ?_
  repeat' first
    | (refine Go.mk ?_; conv => whnf)
    | refine Need.go ?_ ?_
    | refine NilG.go (fun _ => ?_) (fun _ => ?_)
    | refine Br.dec (fun _ => ?_) (fun _ => ?_)
    | refine Br.go (fun _ => ?_) (fun _ => ?_)
    | refine draw_go hT hP mixed ?_
    | refine round_go hT hP ?_
  exact .mk [] [] _ rfl rfl rfl rfl rfl rfl rfl


def lets : List UInt8 := [97, 98, 99, 100, 101, 102, 103, 104, 105, 106, 107, 108, 109, 110, 111, 112, 113, 114, 115, 116, 117, 118, 119, 120, 121, 122]
def lets2 : List UInt8 := lets ++ [48, 49, 50, 51, 52, 53, 54, 55, 56, 57, 45]
theorem lets_all : (List.range 256).all (fun n => decide (Lib.indexByte lets n.toUInt8 < 0) == !decide (97 ≤ n ∧ n ≤ 122)) = true := by decide +kernel
theorem lets2_all : (List.range 256).all (fun n => decide (Lib.indexByte lets2 n.toUInt8 < 0) == !letB (n : Int)) = true := by decide +kernel
theorem lets_in {c : Int} (h : 0 ≤ c ∧ c < 256) : decide (Lib.indexByte lets c.toNat.toUInt8 < 0) = !decide (97 ≤ c ∧ c ≤ 122) := by
  have := List.all_eq_true.1 lets_all c.toNat (List.mem_range.2 (by omega))
  rw [beq_iff_eq] at this
  rw [this]
  congr 1
  by_cases h2 : 97 ≤ c ∧ c ≤ 122
  · rw [decide_eq_true h2, decide_eq_true (by omega)]
  · rw [decide_eq_false h2, decide_eq_false (by omega)]
theorem lets2_in {c : Int} (h : 0 ≤ c ∧ c < 256) : decide (Lib.indexByte lets2 c.toNat.toUInt8 < 0) = !letB c := by
  have := List.all_eq_true.1 lets2_all c.toNat (List.mem_range.2 (by omega))
  rw [beq_iff_eq] at this
  rw [this]
  have : ((c.toNat : Nat) : Int) = c := by omega
  rw [this]
theorem rNamed_ok : GoodF Try.prog 88 nameS.spec := by
  have hT := tab_ok (fs := [(90, idxbS.spec)]) tree_ok
  have hP : SpecsOk Try.prog (tab tree [(90, idxbS.spec)]) := specs_cons sIndexByte_ok specs_nil
  refine nameS.good (fn := Try.f88) hT hP Try.func88 (by kernel_rfl) rfl fun (s : ByteArray) _ => ?_
  have hL := bytes_len s
  repeat' first
    | (refine Go.mk ?_; conv => whnf)
    | refine Need.go ?_ ?_
    | refine NilG.go (fun _ => ?_) (fun _ => ?_)
    | refine Br.dec (fun _ => ?_) (fun _ => ?_)
    | refine Br.go (fun _ => ?_) (fun _ => ?_)
    | refine draw_go hT hP mixed ?_
    | refine round_go hT hP ?_
  · rename_i h
    have h : (s.size : Int) < 1 := h
    exact .mk [] [] _ rfl rfl rfl rfl rfl rfl (imm_bool (name_no (.inl (by omega))).symm)
  · rename_i h
    have h : (s.size : Int) > 20 := h
    exact .mk [] [] _ rfl rfl rfl rfl rfl rfl (imm_bool (name_no (.inr (.inl (by omega)))).symm)
  · rename_i h _
    have h : ¬ (s.size : Int) < 1 := h
    show 0 ≤ (0 : Int) ∧ (0 : Int) < (s.size : Int)
    omega
  · rename_i h1 h2 h3
    have h1 : ¬ (s.size : Int) < 1 := h1
    have hc := bytes_in s ((bytesOf s).getD 0 0) (by rw [List.getD_eq_getElem?_getD, List.getElem?_eq_getElem (by omega)]; exact List.getElem_mem _)
    have h3 : Lib.indexByte lets (byteAt s 0).toNat.toUInt8 < 0 := h3
    rw [byte_at] at h3
    have e := lets_in hc
    rw [decide_eq_true h3] at e
    have e : decide (97 ≤ (bytesOf s).getD 0 0 ∧ (bytesOf s).getD 0 0 ≤ 122) = false := by
      cases hd : decide (97 ≤ (bytesOf s).getD 0 0 ∧ (bytesOf s).getD 0 0 ≤ 122) with
      | true => rw [hd] at e; cases e
      | false => rfl
    have e := of_decide_eq_false e
    exact .mk [] [] _ rfl rfl rfl rfl rfl rfl (imm_bool (name_no (by omega)).symm)
  rename_i h1 h2 h3
  have h1 : ¬ (s.size : Int) < 1 := h1
  have h2 : ¬ (s.size : Int) > 20 := h2
  have hc0 := bytes_in s ((bytesOf s).getD 0 0) (by rw [List.getD_eq_getElem?_getD, List.getElem?_eq_getElem (by omega)]; exact List.getElem_mem _)
  have h3 : ¬ Lib.indexByte lets (byteAt s 0).toNat.toUInt8 < 0 := h3
  rw [byte_at] at h3
  have e := lets_in hc0
  rw [decide_eq_false h3] at e
  have e : decide (97 ≤ (bytesOf s).getD 0 0 ∧ (bytesOf s).getD 0 0 ≤ 122) = true := by
    cases hd : decide (97 ≤ (bytesOf s).getD 0 0 ∧ (bytesOf s).getD 0 0 ≤ 122) with
    | true => rfl
    | false => rw [hd] at e; cases e
  have e := of_decide_eq_true e
  have hF : nameB (bytesOf s) = (bytesOf s).all letB := by
    unfold nameB
    rw [decide_eq_true ⟨by omega, by omega, by omega, by omega⟩, Bool.true_and]
  refine up_go hT hP (A := Unit) (bytesOf s).length (fun i _ => St.mk [.imm (.string s), .dead, .dead, .dead, .dead, .dead, .dead, .dead, .dead, .dead, .dead, .dead, .dead, .dead, .dead, .dead, .dead, .dead, .dead, I (s.size : Int), I i, .dead, .dead, .dead, .dead, .dead, .dead, .dead, .dead] [])
    (fun k _ => ((bytesOf s).take k).all letB = true) () (Le.mk [] [] rfl rfl rfl ?_) (by simp) fun k _ hk hi => ?_
  · repeat' first | exact trivial | exact ⟨rfl, rfl⟩ | refine And.intro ?_ ?_
  repeat' first
    | (refine Go.mk ?_; conv => whnf)
    | refine Need.go ?_ ?_
    | refine NilG.go (fun _ => ?_) (fun _ => ?_)
    | refine Br.dec (fun _ => ?_) (fun _ => ?_)
    | refine Br.go (fun _ => ?_) (fun _ => ?_)
    | refine draw_go hT hP mixed ?_
    | refine round_go hT hP ?_
  · rename_i g1
    have g1 : (k : Int) < (s.size : Int) := g1
    show 0 ≤ (k : Int) ∧ (k : Int) < (s.size : Int)
    omega
  · rename_i g1 g2
    have g1 : (k : Int) < (s.size : Int) := g1
    have hk2 : k < (bytesOf s).length := by omega
    have hc := bytes_in s ((bytesOf s).getD k 0) (by rw [List.getD_eq_getElem?_getD, List.getElem?_eq_getElem hk2]; exact List.getElem_mem _)
    have g2 : Lib.indexByte lets2 (byteAt s k).toNat.toUInt8 < 0 := g2
    rw [byte_at] at g2
    have e := lets2_in hc
    rw [decide_eq_true g2] at e
    have e : letB ((bytesOf s).getD k 0) = false := by
      cases hd : letB ((bytesOf s).getD k 0) with
      | true => rw [hd] at e; cases e
      | false => rfl
    refine .mk [] [] _ rfl rfl rfl rfl rfl rfl (imm_bool ?_)
    rw [hF, all_no hk2 e]
  · rename_i g1 g2
    have g1 : (k : Int) < (s.size : Int) := g1
    have hk2 : k < (bytesOf s).length := by omega
    have hc := bytes_in s ((bytesOf s).getD k 0) (by rw [List.getD_eq_getElem?_getD, List.getElem?_eq_getElem hk2]; exact List.getElem_mem _)
    have g2 : ¬ Lib.indexByte lets2 (byteAt s k).toNat.toUInt8 < 0 := g2
    rw [byte_at] at g2
    have e := lets2_in hc
    rw [decide_eq_false g2] at e
    have e : letB ((bytesOf s).getD k 0) = true := by
      cases hd : letB ((bytesOf s).getD k 0) with
      | true => rfl
      | false => rw [hd] at e; cases e
    apply Exists.intro
    apply Exists.intro ()
    refine And.intro (And.intro ?lt166 (And.intro ?ei166 ?inv166)) (Le.mk [] [] rfl rfl ?hh166 ?ht166)
    case hh166 => exact rfl
    case ht166 => repeat' first | exact trivial | exact ⟨rfl, rfl⟩ | refine And.intro ?_ ?_
    case lt166 => omega
    case ei166 => exact up_i (by omega)
    exact all_take hk2 hi e
  · rename_i g1
    have g1 : ¬ (k : Int) < (s.size : Int) := g1
    refine .mk [] [] _ rfl rfl rfl rfl rfl rfl (imm_bool ?_)
    rw [hF]
    rw [List.take_of_length_le (by omega)] at hi
    exact hi.symm

end Go.Proofs.Ytblnigjmcjpopaa

/- Tables of instructions: how long an operand is; a table without instructions. -/
namespace Go.Proofs.Ytblnigjmcjpopaa
open Go.Fw
set_option linter.unusedVariables false
set_option linter.unusedSimpArgs false
set_option linter.constructorNameAsVariable false
set_option maxRecDepth 100000

def sizeI (m : Int) : Int := if m = 0 then 0 else if m = 4 ∨ m = 5 ∨ m = 6 then 2 else if m = 1 ∨ m = 2 ∨ m = 3 ∨ m = 7 ∨ m = 8 then 1 else -1
def tsizeS : PSpec := ⟨[gi], fun (m, _) => (none, I (sizeI m), [])⟩
theorem tSize_ok : GoodF Try.prog 18 tsizeS.spec := by
  have hT := tab_ok (fs := []) tree_ok
  have hP : SpecsOk Try.prog (tab tree []) := specs_nil
  refine tsizeS.good (fn := Try.f18) hT hP Try.func18 (by kernel_rfl) rfl fun (m : Int) _ => ?_
  repeat' first
    | (refine Go.mk ?_; conv => whnf)
    | refine Need.go ?_ ?_
    | refine NilG.go (fun _ => ?_) (fun _ => ?_)
    | refine Br.dec (fun _ => ?_) (fun _ => ?_)
    | refine Br.go (fun _ => ?_) (fun _ => ?_)
    | refine draw_go hT hP mixed ?_
    | refine round_go hT hP ?_
  all_goals (refine .mk [] [] _ rfl rfl rfl rfl rfl rfl (imm_int ?_))
  all_goals clear hT hP
  all_goals (show _ = sizeI m; unfold sizeI; dsimp only [gi, Den] at *)
  all_goals ((repeat' split) <;> first | rfl | omega)
theorem rOperand_ok : GoodF Try.prog 19 tsizeS.spec := by
  have hT := tab_ok (fs := []) tree_ok
  have hP : SpecsOk Try.prog (tab tree []) := specs_nil
  refine tsizeS.good (fn := Try.f19) hT hP Try.func19 (by kernel_rfl) rfl fun (m : Int) _ => ?_
  repeat' first
    | (refine Go.mk ?_; conv => whnf)
    | refine Need.go ?_ ?_
    | refine NilG.go (fun _ => ?_) (fun _ => ?_)
    | refine Br.dec (fun _ => ?_) (fun _ => ?_)
    | refine Br.go (fun _ => ?_) (fun _ => ?_)
    | refine draw_go hT hP mixed ?_
    | refine round_go hT hP ?_
  all_goals first
    | exact of_decide_eq_true rfl
    | (dsimp only [gi, Den] at *; simp only [List.length_cons, List.length_nil] at *; omega)
    | skip
  all_goals (refine .mk [] [] _ rfl rfl rfl rfl rfl rfl (imm_int ?_))
  all_goals clear hT hP
  all_goals (dsimp only [gi, Den] at *)
  all_goals (try simp only [List.length_cons, List.length_nil] at *)
  all_goals first
    | (show _ = sizeI m; unfold sizeI; (repeat' split) <;> first | rfl | omega)
    | skip
  · have hm : m = 0 ∨ m = 1 ∨ m = 2 ∨ m = 3 ∨ m = 4 ∨ m = 5 ∨ m = 6 ∨ m = 7 ∨ m = 8 := by omega
    rcases hm with rfl | rfl | rfl | rfl | rfl | rfl | rfl | rfl | rfl <;> rfl
def cycles0S : PSpec := ⟨[⟨false, .sl CycT⟩], fun (l, _) => (some (l = []), I 0, [])⟩
theorem cycles0_ok : GoodF Try.prog 130 cycles0S.spec := by
  have hT := tab_ok (fs := []) tree_ok
  have hP : SpecsOk Try.prog (tab tree []) := specs_nil
  refine cycles0S.good (fn := Try.f130) hT hP Try.func130 (by kernel_rfl) rfl fun (l : List Cyc) hq => ?_
  obtain rfl : l = [] := hq _ rfl
  clear hq
  repeat' first
    | (refine Go.mk ?_; conv => whnf)
    | refine Need.go ?_ ?_
    | refine NilG.go (fun _ => ?_) (fun _ => ?_)
    | refine Br.dec (fun _ => ?_) (fun _ => ?_)
    | refine Br.go (fun _ => ?_) (fun _ => ?_)
    | refine draw_go hT hP mixed ?_
    | refine round_go hT hP ?_
  refine loop_unroll 1 ?_
  repeat' first
    | (refine Go.mk ?_; conv => whnf)
    | refine Need.go ?_ ?_
    | refine NilG.go (fun _ => ?_) (fun _ => ?_)
    | refine Br.dec (fun _ => ?_) (fun _ => ?_)
    | refine Br.go (fun _ => ?_) (fun _ => ?_)
    | refine draw_go hT hP mixed ?_
    | refine round_go hT hP ?_
  all_goals exact .mk [] [] _ rfl rfl rfl rfl rfl rfl rfl
def check0S : PSpec := ⟨[gCpu], fun (c, _) => (some (c.2 = ([], [], [], [])), I (if nameB (bytesOf c.1) = true then 0 else 15), [])⟩
theorem check0_ok : GoodF Try.prog 58 check0S.spec := by
  have hT := tab_ok (fs := [(85, nameS.spec), (130, cycles0S.spec)]) tree_ok
  have hP : SpecsOk Try.prog (tab tree [(85, nameS.spec), (130, cycles0S.spec)]) := specs_cons tName_ok (specs_cons cycles0_ok specs_nil)
  refine check0S.good (fn := Try.f58) hT hP Try.func58 (by kernel_rfl) rfl fun (c : Cpu) hq => ?_
  obtain ⟨cn, c2⟩ := c
  obtain rfl : c2 = ([], [], [], []) := hq _ rfl
  clear hq
  repeat' first
    | (refine Go.mk ?_; conv => whnf)
    | refine Need.go ?_ ?_
    | refine NilG.go (fun _ => ?_) (fun _ => ?_)
    | refine Br.dec (fun _ => ?_) (fun _ => ?_)
    | refine Br.go (fun _ => ?_) (fun _ => ?_)
    | refine draw_go hT hP mixed ?_
    | refine round_go hT hP ?_
  all_goals first
    | exact of_decide_eq_true rfl
    | skip
  · rename_i h
    have hn : nameB (bytesOf cn) = false := by
      have h : (!nameB (bytesOf cn)) = true := h
      simpa using h
    refine .mk [] [] _ rfl rfl rfl rfl rfl rfl (imm_int ?_)
    show 15 = if nameB (bytesOf cn) = true then 0 else 15
    rw [hn]; rfl
  rename_i h
  have hn : nameB (bytesOf cn) = true := by
    have h : (!nameB (bytesOf cn)) = false := h
    simpa using h
  refine loop_unroll 1 ?_
  repeat' first
    | (refine Go.mk ?_; conv => whnf)
    | refine Need.go ?_ ?_
    | refine NilG.go (fun _ => ?_) (fun _ => ?_)
    | refine Br.dec (fun _ => ?_) (fun _ => ?_)
    | refine Br.go (fun _ => ?_) (fun _ => ?_)
    | refine draw_go hT hP mixed ?_
    | refine round_go hT hP ?_
  refine loop_unroll 4 ?_
  repeat' first
    | (refine Go.mk ?_; conv => whnf)
    | refine Need.go ?_ ?_
    | refine NilG.go (fun _ => ?_) (fun _ => ?_)
    | refine Br.dec (fun _ => ?_) (fun _ => ?_)
    | refine Br.go (fun _ => ?_) (fun _ => ?_)
    | refine draw_go hT hP mixed ?_
    | refine round_go hT hP ?_
  all_goals first
    | exact of_decide_eq_true rfl
    | exact rfl
    | skip
  all_goals (refine .mk [] [] _ rfl rfl rfl rfl rfl rfl (imm_int ?_))
  all_goals (show 0 = if nameB (bytesOf cn) = true then 0 else 15; rw [hn]; rfl)

def tablesS : PSpec := ⟨[], fun _ => (none, .cell (bv true), [])⟩
theorem tables_ok : GoodF Try.prog 12 tablesS.spec := by
  have hT := tab_ok (fs := [(18, tsizeS.spec), (58, check0S.spec)]) tree_ok
  have hP : SpecsOk Try.prog (tab tree [(18, tsizeS.spec), (58, check0S.spec)]) := specs_cons tSize_ok (specs_cons check0_ok specs_nil)
  refine tablesS.good (fn := Try.f12) hT hP Try.func12 (by kernel_rfl) rfl fun _ => ?_
  repeat' first
    | (refine Go.mk ?_; conv => whnf)
    | refine Need.go ?_ ?_
    | refine NilG.go (fun _ => ?_) (fun _ => ?_)
    | refine Br.dec (fun _ => ?_) (fun _ => ?_)
    | refine Br.go (fun _ => ?_) (fun _ => ?_)
    | refine draw_go hT hP mixed ?_
    | refine round_go hT hP ?_
  all_goals first
    | exact of_decide_eq_true rfl
    | exact rfl
    | skip
  refine .mk [] [] _ rfl rfl rfl rfl rfl rfl (imm_bool ?_)
  decide +kernel

end Go.Proofs.Ytblnigjmcjpopaa

/- What the functions of package bit and the digits of bakeref1 are as arithmetic. -/
namespace Go.Proofs.Ytblnigjmcjpopaa
open Go.Fw
set_option linter.unusedVariables false
set_option linter.unusedSimpArgs false

theorem digitF_eq (n : Int) (i : Nat) (h : i ≤ 62) : digitF n i = ((u64 n / 2 ^ i % 2 : Nat) : Int) := by
  unfold digitF
  have e1 : IntKind.u64.wrap n = (u64 n : Int) := by rw [IntKind.wrap_u64]; unfold u64; omega
  have e2 : shr .u64 (IntKind.u64.wrap n) i = ((u64 n / 2 ^ i : Nat) : Int) := by
    rw [e1]
    show ((u64 n : Nat) : Int).fdiv (2 ^ (min ((i : Int).toNat) 64)) = _
    have : min ((i : Int).toNat) 64 = i := by omega
    rw [this]
    have e2 : (2 : Int) ^ i = ((2 ^ i : Nat) : Int) := by simp
    rw [e2, Int.fdiv_eq_ediv_of_nonneg _ (Int.natCast_nonneg _)]
    simp
  rw [e2]
  have hlt : u64 n / 2 ^ i < 2 ^ 64 := Nat.lt_of_le_of_lt (Nat.div_le_self _ _) (u64_lt n)
  have e3 : land .u64 ((u64 n / 2 ^ i : Nat) : Int) 1 = ((u64 n / 2 ^ i % 2 : Nat) : Int) := by
    show IntKind.u64.wrap (((BitVec.ofInt 64 ((u64 n / 2 ^ i : Nat) : Int) &&& BitVec.ofInt 64 1).toNat : Nat) : Int) = _
    rw [BitVec.toNat_and, ofInt_toNat, ofInt_toNat, u64_nat hlt]
    have : u64 1 = 2 ^ 1 - 1 := by decide
    rw [this, Nat.and_two_pow_sub_one_eq_mod, IntKind.wrap_u64]
    omega
  rw [e3]
  exact w64 (by omega) (by omega)
theorem digF_eq (n : Int) (k : Nat) (h : k ≤ 62) : digF n k = bitsN (u64 n) k := by
  unfold digF bitsN
  apply List.map_congr_left
  intro i hi
  exact digitF_eq n i (by have := List.mem_range.1 hi; omega)
theorem of2F_bits : ∀ (k m : Nat), k ≤ 62 → of2F (bitsN m k) = ((m % 2 ^ k : Nat) : Int)
  | 0, m, _ => by simp [bitsN, of2F, Nat.mod_one]
  | k + 1, m, h => by
    have ih := of2F_bits k (m / 2) (by omega)
    rw [bitsN_succ]
    show IntKind.i64.wrap (IntKind.i64.wrap (2 * of2F (bitsN (m / 2) k)) + ((m % 2 : Nat) : Int)) = _
    rw [ih]
    have h3 : 2 ^ k ≤ 2 ^ 61 := pow_le (by omega)
    have h4 : m / 2 % 2 ^ k < 2 ^ k := Nat.mod_lt _ (Nat.pow_pos (by omega))
    rw [w64 (x := 2 * ((m / 2 % 2 ^ k : Nat) : Int)) (by omega) (by omega), w64 (by omega) (by omega)]
    have e : m % 2 ^ (k + 1) = m % 2 + 2 * (m / 2 % 2 ^ k) := by
      rw [Nat.pow_succ, Nat.mul_comm, Nat.mod_mul]
    rw [e]
    omega
theorem dig2_62 (n : Int) : dig2F n 62 = bitsN (u64 n) 62 := digF_eq n 62 (by omega)

end Go.Proofs.Ytblnigjmcjpopaa

/- Lines with four values, as plain functions: how joining many compares with the drivers of each way. -/
namespace Go.Proofs.Ytblnigjmcjpopaa
open Go.Fw
set_option linter.unusedVariables false
set_option linter.unusedSimpArgs false

def fitF (a : Int) : Int := if a < 0 then 3 else if a > 3 then 3 else a
def joinF (a b : Int) : Int := if fitF a = 2 then fitF b else if fitF b = 2 then fitF a else if fitF a = fitF b then fitF a else 3
def pullF (a b : Int) : Int := if fitF a = 2 then fitF b else fitF a
def allF (l : List Int) : Int := l.foldl joinF 2
def lowB (a : Int) : Bool := decide (a = 0) || (decide (a < 0) || decide (a > 2))
def highB (a : Int) : Bool := decide (a = 1) || (decide (a < 0) || decide (a > 2))
def codeF (lo hi : Bool) : Int := match lo, hi with | true, true => 3 | true, false => 0 | false, true => 1 | false, false => 2
def lineF (l : List Int) : Int := codeF (l.any lowB) (l.any highB)
def wiredF (l : List Int) (b : Int) : Int := if l.any (fun x => decide (fitF x = 0)) = true then 0 else if l.any (fun x => decide (fitF x = 3)) = true then 3 else fitF b

theorem fitF_code (a : Int) : fitF a = codeF (lowB a) (highB a) := by
  by_cases h0 : a = 0
  · subst h0; decide
  by_cases h1 : a = 1
  · subst h1; decide
  by_cases h2 : a = 2
  · subst h2; decide
  have e1 : lowB a = true := by unfold lowB; simp; omega
  have e2 : highB a = true := by unfold highB; simp; omega
  rw [e1, e2]
  show fitF a = 3
  unfold fitF
  split <;> (try split) <;> omega
theorem join_code (lo hi : Bool) (a : Int) : joinF (codeF lo hi) a = codeF (lo || lowB a) (hi || highB a) := by
  unfold joinF
  rw [fitF_code a]
  cases lo <;> cases hi <;> cases lowB a <;> cases highB a <;> decide
theorem foldl_code : ∀ (l : List Int) (lo hi : Bool), l.foldl joinF (codeF lo hi) = codeF (lo || l.any lowB) (hi || l.any highB)
  | [], lo, hi => by simp
  | a :: l, lo, hi => by
    rw [List.foldl_cons, join_code, foldl_code l, List.any_cons, List.any_cons, Bool.or_assoc, Bool.or_assoc]
theorem allF_line (l : List Int) : allF l = lineF l := by
  show l.foldl joinF (codeF false false) = _
  rw [foldl_code]
  simp [lineF]
theorem line_one (a : Int) : lineF [a] = fitF a := by
  rw [fitF_code]; simp [lineF]
theorem line_two (a b : Int) : lineF [a, b] = joinF a b := by
  have h := join_code (lowB a) (highB a) b
  rw [← fitF_code] at h
  have e : joinF (fitF a) b = joinF a b := by
    have : fitF (fitF a) = fitF a := by
      rw [fitF_code a]; cases lowB a <;> cases highB a <;> decide
    unfold joinF
    rw [this]
  rw [← e, h]
  simp [lineF]

end Go.Proofs.Ytblnigjmcjpopaa

/- The functions of package pin, and bakeref1's lines. -/
namespace Go.Proofs.Ytblnigjmcjpopaa
open Go.Fw
set_option linter.unusedVariables false
set_option linter.unusedSimpArgs false
set_option maxRecDepth 100000

theorem tup2_bool {a b c d : Bool} (h1 : a = c) (h2 : b = d) : AV.tup [.c (bv a), .c (bv b)] = AV.tup [.c (bv c), .c (bv d)] := by rw [h1, h2]
theorem any_take {α : Type} [Inhabited α] (l : List α) (d : α) (p : α → Bool) {k : Nat} (h : k < l.length) : (l.take (k + 1)).any p = ((l.take k).any p || p (l.getD k d)) := by
  rw [List.take_succ_eq_append_getElem h, List.any_append]
  simp [h]

def pfitS : PSpec := ⟨[gi], fun (a, _) => (none, I (fitF a), [])⟩
def joinS : PSpec := ⟨[gi, gi], fun (a, b, _) => (none, I (joinF a b), [])⟩
def allS : PSpec := ⟨[gl], fun (l, _) => (some (List.length l ≤ 4611686018427387904), I (allF l), [])⟩
def pullS : PSpec := ⟨[gi, gi], fun (a, b, _) => (none, I (pullF a b), [])⟩
def wiredS : PSpec := ⟨[gl, gi], fun (l, b, _) => (some (List.length l ≤ 4611686018427387904), I (wiredF l b), [])⟩
def driveS : PSpec := ⟨[gi], fun (a, _) => (none, .tup [.c (bv (lowB a)), .c (bv (highB a))], [])⟩
def lineS : PSpec := ⟨[gl], fun (l, _) => (some (List.length l ≤ 4611686018427387904), I (lineF l), [])⟩
def idxF (p : Int → Bool) : List Int → Int → Int
  | [], _ => -1
  | a :: l, i => if p a = true then i else idxF p l (i + 1)
theorem idxF_any (p : Int → Bool) : ∀ (l : List Int) (i : Int), 0 ≤ i → decide (idxF p l i ≥ 0) = l.any p
  | [], i, h => by simp [idxF]
  | a :: l, i, h => by
    unfold idxF
    rw [List.any_cons]
    cases hp : p a with
    | true => simpa using h
    | false => simpa using idxF_any p l (i + 1) (by omega)
theorem idxF_step (p : Int → Bool) {l : List Int} {k : Nat} (h : k < l.length) : idxF p (l.drop k) k = if p (l.getD k 0) = true then (k : Int) else idxF p (l.drop (k + 1)) ((k : Int) + 1) := by
  rw [List.drop_eq_getElem_cons h, idxF]
  simp [h]

def clashS : PSpec := ⟨[gi], fun (a, _) => (none, .cell (bv (decide (fitF a = 3))), [])⟩
def indexS : PSpec := ⟨[gl, gi], fun (l, v, _) => (some (List.length l ≤ 4611686018427387904), I (idxF (fun a => decide (v = a)) l 0), [])⟩
theorem index_ok : GoodF Try.prog 153 indexS.spec := by
  have hT := tab_ok (fs := []) tree_ok
  have hP : SpecsOk Try.prog (tab tree []) := specs_nil
  refine indexS.good (fn := Try.f153) hT hP Try.func153 (by kernel_rfl) rfl fun (l : List Int) (v : Int) hp => ?_
  have hp : l.length ≤ 4611686018427387904 := hp _ rfl
  repeat' first
    | (refine Go.mk ?_; conv => whnf)
    | refine Need.go ?_ ?_
    | refine NilG.go (fun _ => ?_) (fun _ => ?_)
    | refine Br.dec (fun _ => ?_) (fun _ => ?_)
    | refine Br.go (fun _ => ?_) (fun _ => ?_)
    | refine draw_go hT hP mixed ?_
    | refine round_go hT hP ?_
  refine loop_go hT hP (X := Int) (fun i => St.mk [.cell (.ro (.int .i64) l), I v, .dead, .dead, .dead, .dead, .dead, I l.length, I i, .dead, .dead, .dead, .dead, .dead, .dead, .dead, .dead, .dead, .dead] [])
    (fun i => ∃ k : Nat, i = k ∧ k ≤ l.length ∧ idxF (fun a => decide (v = a)) l 0 = idxF (fun a => decide (v = a)) (l.drop k) k) (fun i => (l.length - i).toNat) 0 (Le.mk [] [] rfl rfl rfl ?_) ?_ fun i hi => ?_
  rotate_right
  repeat' first
    | (refine Go.mk ?_; conv => whnf)
    | refine Need.go ?_ ?_
    | refine NilG.go (fun _ => ?_) (fun _ => ?_)
    | refine Br.dec (fun _ => ?_) (fun _ => ?_)
    | refine Br.go (fun _ => ?_) (fun _ => ?_)
    | refine draw_go hT hP mixed ?_
    | refine round_go hT hP ?_
  · obtain ⟨k, rfl, hk, h0⟩ := hi
    omega
  · rename_i hz
    obtain ⟨k, rfl, hk, h0⟩ := hi
    have hlt : k < l.length := by omega
    have hz : v = l.getD k 0 := by simpa [dflt] using hz
    refine .mk [] [] _ rfl rfl rfl rfl rfl rfl (imm_int ?_)
    show (k : Int) = idxF (fun a => decide (v = a)) l 0
    rw [h0, idxF_step _ hlt, if_pos (decide_eq_true hz)]
  · rename_i hz
    obtain ⟨k, rfl, hk, h0⟩ := hi
    have hlt : k < l.length := by omega
    have hz : ¬ v = l.getD k 0 := by simpa [dflt] using hz
    have e : IntKind.i64.wrap ((k : Int) + 1) = ((k + 1 : Nat) : Int) := by rw [w64 (by omega) (by omega)]; omega
    apply Exists.intro _
    refine And.intro ?_ (And.intro ?_ (Le.mk [] [] rfl rfl ?hh ?ht))
    case hh => exact rfl
    case ht => repeat' first | exact trivial | exact ⟨rfl, rfl⟩ | refine And.intro ?_ ?_
    · refine ⟨k + 1, e, by omega, ?_⟩
      rw [h0, idxF_step _ hlt, if_neg (by simpa using hz)]
      rfl
    · show (l.length - IntKind.i64.wrap ((k : Int) + 1)).toNat < (l.length - (k : Int)).toNat
      rw [e]; omega
  · obtain ⟨k, rfl, hk, h0⟩ := hi
    refine .mk [] [] _ rfl rfl rfl rfl rfl rfl (imm_int ?_)
    show -1 = idxF (fun a => decide (v = a)) l 0
    rw [h0, List.drop_of_length_le (by omega)]; rfl
  · repeat' first | exact trivial | exact ⟨rfl, rfl⟩ | refine And.intro ?_ ?_
  · exact ⟨0, rfl, by omega, rfl⟩

def containsS : PSpec := ⟨[gl, gi], fun (l, v, _) => (some (List.length l ≤ 4611686018427387904), .cell (bv (l.any fun a => decide (v = a))), [])⟩
theorem contains_ok : GoodF Try.prog 91 containsS.spec := by
  have hT := tab_ok (fs := [(153, indexS.spec)]) tree_ok
  have hP : SpecsOk Try.prog (tab tree [(153, indexS.spec)]) := specs_cons index_ok specs_nil
  refine containsS.good (fn := Try.f91) hT hP Try.func91 (by kernel_rfl) rfl fun (l : List Int) (v : Int) hp => ?_
  have hp : l.length ≤ 4611686018427387904 := hp _ rfl
  repeat' first
    | (refine Go.mk ?_; conv => whnf)
    | refine Need.go ?_ ?_
    | refine NilG.go (fun _ => ?_) (fun _ => ?_)
    | refine Br.dec (fun _ => ?_) (fun _ => ?_)
    | refine Br.go (fun _ => ?_) (fun _ => ?_)
    | refine draw_go hT hP mixed ?_
    | refine round_go hT hP ?_
  · exact hp
  · refine .mk [] [] _ rfl rfl rfl rfl rfl rfl (imm_bool ?_)
    exact idxF_any _ l 0 (by omega)

def linesS : PSpec := ⟨[], fun _ => (none, .cell (bv true), [])⟩
end Go.Proofs.Ytblnigjmcjpopaa

