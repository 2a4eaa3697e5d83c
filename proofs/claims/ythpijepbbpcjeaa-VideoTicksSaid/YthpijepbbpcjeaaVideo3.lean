/- The chip that draws, by the document. -/
import Derived.Test.YthpijepbbpcjeaaVideo2
namespace Go.Proofs.Ythpijepbbpcjeaa
open Go.Fw
set_option linter.unusedVariables false
set_option linter.unusedSimpArgs false
set_option maxRecDepth 100000

def vidC : Cv := (ByteArray.empty, 6, 0, 0, [])
theorem vmods_ok : ([2560, 2] : List Int).length ≤ 1000 ∧ ∀ m ∈ ([2560, 2] : List Int), 0 < m ∧ m ≤ 4611686018427387904 := by decide
def vformedS : PSpec := ⟨[gC, gD], fun (c, d, _) => (some (c = vidC), devM, [.arr (.int .i64) (vN d.1), .arr (.int .u8) (vM d.2)])⟩
theorem vformed_ok : Good Try.prog 15 vformedS.spec := by
  have hT := tab_ok (fs := [(82, formS.spec)]) tree_ok
  have hP : SpecsOk Try.prog (tab tree [(82, formS.spec)]) := specs_cons form_ok specs_nil
  refine vformedS.good (fn := Try.f15) hT hP Try.func15 (by kernel_rfl) rfl fun (c : Cv) (d : Dv) hp => ?_
  have hp : c = vidC := hp _ rfl
  subst hp
  obtain ⟨N, M⟩ := d
  repeat' first
    | (refine Go.mk ?_; conv => whnf)
    | refine Need.go ?_ ?_
    | refine NilG.go (fun _ => ?_) (fun _ => ?_)
    | refine Br.dec (fun _ => ?_) (fun _ => ?_)
    | refine Br.go (fun _ => ?_) (fun _ => ?_)
    | refine draw_go hT hP mixed ?_
    | refine round_go hT hP ?_
  all_goals first
    | exact rfl
    | exact vmods_ok
    | exact of_decide_eq_true rfl
    | skip
  · rename_i h
    have h : (N.length : Int) = 0 := h
    obtain rfl : N = [] := List.eq_nil_of_length_eq_zero (by omega)
    exact .mk [] [6, 7] _ rfl rfl rfl rfl rfl rfl rfl
  · rename_i h
    have h : ¬ (N.length : Int) = 0 := h
    refine .mk [] [5, 6] _ rfl rfl rfl rfl rfl (blk_v (l := [N.getD 0 0 % 2560, N.getD 1 0 % 2]) ?_ rfl) rfl
    show _ = vN N
    rw [vN, vP, if_neg (by omega)]

def vfreshS : PSpec := ⟨[gC], fun (c, _) => (some (c = vidC), devM, [.arr (.int .i64) [2559, 0], .arr (.int .u8) (List.replicate 32 0)])⟩
theorem vfresh_ok : Good Try.prog 23 vfreshS.spec := by
  have hT := tab_ok (fs := [(15, vformedS.spec)]) tree_ok
  have hP : SpecsOk Try.prog (tab tree [(15, vformedS.spec)]) := specs_cons vformed_ok specs_nil
  refine vfreshS.good (fn := Try.f23) hT hP Try.func23 (by kernel_rfl) rfl fun (c : Cv) hp => ?_
  have hp : c = vidC := hp _ rfl
  subst hp
  repeat' first
    | (refine Go.mk ?_; conv => whnf)
    | refine Need.go ?_ ?_
    | refine NilG.go (fun _ => ?_) (fun _ => ?_)
    | refine Br.dec (fun _ => ?_) (fun _ => ?_)
    | refine Br.go (fun _ => ?_) (fun _ => ?_)
    | refine draw_go hT hP mixed ?_
    | refine round_go hT hP ?_
  all_goals first
    | exact rfl
    | exact vmods_ok
    | exact of_decide_eq_true rfl
    | skip
  · exact .mk [] [2, 3] _ rfl rfl rfl rfl rfl rfl rfl

def vloadedS : PSpec := ⟨[gC, gD, gi], fun (c, d, a, _) => (some (c = vidC ∧ u8s d.2), .tup [.agg [.own 0, .own 1], I1 (vrF d.1 (vM d.2) a)], [.arr (.int .i64) (vrN d.1 a), .arr (.int .u8) (vM d.2)])⟩
theorem vloaded_ok : Good Try.prog 25 vloadedS.spec := by
  have hT := tab_ok (fs := [(15, vformedS.spec)]) tree_ok
  have hP : SpecsOk Try.prog (tab tree [(15, vformedS.spec)]) := specs_cons vformed_ok specs_nil
  refine vloadedS.good (fn := Try.f25) hT hP Try.func25 (by kernel_rfl) rfl fun (c : Cv) (d : Dv) (a : Int) hp => ?_
  obtain ⟨rfl, hu⟩ : c = vidC ∧ u8s d.2 := hp _ rfl
  obtain ⟨N, M⟩ := d
  have hu : u8s M := hu
  have hP0 := vP_in N
  have hb := u8s_get (vM_u8 hu) a.toNat
  have e1 : IntKind.i64.wrap (Int.tdiv (vP N) 64) = vP N / 64 := by rw [Int.tdiv_eq_ediv_of_nonneg hP0.1, w64 (by omega) (by omega)]
  have e2 : Int.tmod (vP N) 64 = vP N % 64 := Int.tmod_eq_emod_of_nonneg hP0.1
  have e3 : IntKind.i64.wrap (bA (vM M) a.toNat) = bA (vM M) a.toNat := w64 (by omega) (by omega)
  repeat' first
    | (refine Go.mk ?_; conv => whnf)
    | refine Need.go ?_ ?_
    | refine NilG.go (fun _ => ?_) (fun _ => ?_)
    | refine Br.dec (fun _ => ?_) (fun _ => ?_)
    | refine Br.go (fun _ => ?_) (fun _ => ?_)
    | refine draw_go hT hP mixed ?_
    | refine round_go hT hP ?_
  all_goals first
    | exact rfl
    | exact vmods_ok
    | exact of_decide_eq_true rfl
    | (show 0 ≤ a ∧ a < (vM M).length
       rw [vM_len]; omega)
    | (show a.toNat < (vM M).length
       rw [vM_len]; omega)
    | (refine .mk [] [4, 5] _ rfl rfl rfl rfl rfl (blk_v ?_ rfl) (tup_rv ?_)
       · show _ = vrN N a
         rw [vrN]; split <;> first | rfl | (exfalso; omega)
       · show _ = vrF N (vM M) a
         rw [vrF]; repeat' split
         all_goals first | rfl | exact e1 | exact e2 | exact e3 | (exfalso; omega))
    | skip

def vstoredS : PSpec := ⟨[gC, gD, gi, gi], fun (c, d, a, k, _) => (some (c = vidC), devM, [.arr (.int .i64) [vP d.1, vH d.1], .arr (.int .u8) (vwM (vM d.2) a k)])⟩
theorem vstored_ok : Good Try.prog 27 vstoredS.spec := by
  have hT := tab_ok (fs := [(15, vformedS.spec), (95, modS.spec)]) tree_ok
  have hP : SpecsOk Try.prog (tab tree [(15, vformedS.spec), (95, modS.spec)]) := specs_cons vformed_ok (specs_cons mod_ok specs_nil)
  refine vstoredS.good (fn := Try.f27) hT hP Try.func27 (by kernel_rfl) rfl fun (c : Cv) (d : Dv) (a k : Int) hp => ?_
  have hp : c = vidC := hp _ rfl
  subst hp
  obtain ⟨N, M⟩ := d
  have e : IntKind.u8.wrap (k % 256) = k % 256 := wrap8 (by omega) (by omega)
  repeat' first
    | (refine Go.mk ?_; conv => whnf)
    | refine Need.go ?_ ?_
    | refine NilG.go (fun _ => ?_) (fun _ => ?_)
    | refine Br.dec (fun _ => ?_) (fun _ => ?_)
    | refine Br.go (fun _ => ?_) (fun _ => ?_)
    | refine draw_go hT hP mixed ?_
    | refine round_go hT hP ?_
  all_goals first
    | exact rfl
    | exact vmods_ok
    | exact of_decide_eq_true rfl
    | (show 0 ≤ a ∧ a < (vM M).length
       rw [vM_len]; omega)
    | (show a.toNat < (vM M).length
       rw [vM_len]; omega)
    | (exfalso; omega)
    | (refine .mk [] [3, 4] _ rfl rfl rfl rfl rfl (blk_v rfl (?_ : vM M = vwM (vM M) a k)) rfl
       rw [vwM, if_neg (fun e => by omega)])
    | (refine .mk [] [3, 4] _ rfl rfl rfl rfl rfl (blk_v rfl (?_ : (vM M).set a.toNat (IntKind.u8.wrap (k % 256)) = vwM (vM M) a k)) rfl
       rw [vwM, if_pos ⟨⟨by omega, by omega⟩, by omega⟩, e])
    | skip

def vtickedS : PSpec := ⟨[gC, gD], fun (c, d, _) => (some (c = vidC ∧ u8s d.2), devM, [.arr (.int .i64) (tickV (vM d.2) (vN d.1)), .arr (.int .u8) (vM d.2)])⟩
theorem vticked_ok : Good Try.prog 16 vtickedS.spec := by
  have hT := tab_ok (fs := [(15, vformedS.spec), (83, shadeS.spec)]) tree_ok
  have hP : SpecsOk Try.prog (tab tree [(15, vformedS.spec), (83, shadeS.spec)]) := specs_cons vformed_ok (specs_cons shade_ok specs_nil)
  refine vtickedS.good (fn := Try.f16) hT hP Try.func16 (by kernel_rfl) rfl fun (c : Cv) (d : Dv) hp => ?_
  obtain ⟨rfl, hu⟩ : c = vidC ∧ u8s d.2 := hp _ rfl
  obtain ⟨N, M⟩ := d
  have hu : u8s M := hu
  have hP0 := vP_in N
  have hpos : Int.tmod (IntKind.i64.wrap (vP N + 1)) 2560 = (vP N + 1) % 2560 := by rw [w64 (by omega) (by omega), Int.tmod_eq_emod_of_nonneg (by omega)]
  have hpos2 : 0 ≤ Int.tmod (IntKind.i64.wrap (vP N + 1)) 2560 ∧ Int.tmod (IntKind.i64.wrap (vP N + 1)) 2560 < 2560 := by rw [hpos]; omega
  repeat' first
    | (refine Go.mk ?_; conv => whnf)
    | refine Need.go ?_ ?_
    | refine NilG.go (fun _ => ?_) (fun _ => ?_)
    | refine Br.dec (fun _ => ?_) (fun _ => ?_)
    | refine Br.go (fun _ => ?_) (fun _ => ?_)
    | refine draw_go hT hP mixed ?_
    | refine round_go hT hP ?_
  all_goals first
    | exact rfl
    | exact vmods_ok
    | exact of_decide_eq_true rfl
    | exact ⟨vM_len M, vM_u8 hu, hpos2.1, hpos2.2⟩
    | skip
  · rename_i h
    have h : hitB (vM M) (Int.tmod (IntKind.i64.wrap (vP N + 1)) 2560) = true := h
    refine .mk [] [3, 4] _ rfl rfl rfl rfl rfl (blk_v (l := [Int.tmod (IntKind.i64.wrap (vP N + 1)) 2560, 1]) ?_ rfl) rfl
    show _ = tickV (vM M) (vN N)
    rw [hpos] at h ⊢
    rw [vN, tickV, h]; rfl
  · rename_i h
    have h : hitB (vM M) (Int.tmod (IntKind.i64.wrap (vP N + 1)) 2560) = false := h
    refine .mk [] [3, 4] _ rfl rfl rfl rfl rfl (blk_v (l := [Int.tmod (IntKind.i64.wrap (vP N + 1)) 2560, vH N]) ?_ rfl) rfl
    show _ = tickV (vM M) (vN N)
    rw [hpos] at h ⊢
    rw [vN, tickV, h]; rfl

def vshowsS : PSpec := ⟨[gC, gD], fun (c, d, _) => (some (c = vidC ∧ u8s d.2), I (colorF (vM d.2) (vP d.1)), [])⟩
theorem vshows_ok : Good Try.prog 33 vshowsS.spec := by
  have hT := tab_ok (fs := [(15, vformedS.spec), (83, shadeS.spec)]) tree_ok
  have hP : SpecsOk Try.prog (tab tree [(15, vformedS.spec), (83, shadeS.spec)]) := specs_cons vformed_ok (specs_cons shade_ok specs_nil)
  refine vshowsS.good (fn := Try.f33) hT hP Try.func33 (by kernel_rfl) rfl fun (c : Cv) (d : Dv) hp => ?_
  obtain ⟨rfl, hu⟩ : c = vidC ∧ u8s d.2 := hp _ rfl
  obtain ⟨N, M⟩ := d
  have hu : u8s M := hu
  have hP0 := vP_in N
  repeat' first
    | (refine Go.mk ?_; conv => whnf)
    | refine Need.go ?_ ?_
    | refine NilG.go (fun _ => ?_) (fun _ => ?_)
    | refine Br.dec (fun _ => ?_) (fun _ => ?_)
    | refine Br.go (fun _ => ?_) (fun _ => ?_)
    | refine draw_go hT hP mixed ?_
    | refine round_go hT hP ?_
  all_goals first
    | exact rfl
    | exact vmods_ok
    | exact of_decide_eq_true rfl
    | exact ⟨vM_len M, vM_u8 hu, hP0.1, hP0.2⟩
    | exact .mk [] [] _ rfl rfl rfl rfl rfl rfl rfl

def vrestsS : PSpec := ⟨[gC, gD], fun (c, d, _) => (some (c = vidC ∧ u8s d.2), I (vnextF (vM d.2) (vP d.1)), [])⟩
theorem vrests_ok : Good Try.prog 35 vrestsS.spec := by
  have hT := tab_ok (fs := [(15, vformedS.spec), (83, shadeS.spec)]) tree_ok
  have hP : SpecsOk Try.prog (tab tree [(15, vformedS.spec), (83, shadeS.spec)]) := specs_cons vformed_ok (specs_cons shade_ok specs_nil)
  refine vrestsS.good (fn := Try.f35) hT hP Try.func35 (by kernel_rfl) rfl fun (c : Cv) (d : Dv) hp => ?_
  obtain ⟨rfl, hu⟩ : c = vidC ∧ u8s d.2 := hp _ rfl
  obtain ⟨N, M⟩ := d
  have hu : u8s M := hu
  have hP0 := vP_in N
  repeat' first
    | (refine Go.mk ?_; conv => whnf)
    | refine Need.go ?_ ?_
    | refine NilG.go (fun _ => ?_) (fun _ => ?_)
    | refine Br.dec (fun _ => ?_) (fun _ => ?_)
    | refine Br.go (fun _ => ?_) (fun _ => ?_)
    | refine draw_go hT hP mixed ?_
    | refine round_go hT hP ?_
  all_goals first
    | exact rfl
    | exact vmods_ok
    | exact of_decide_eq_true rfl
    | exact ⟨vM_len M, vM_u8 hu, hP0.1, hP0.2⟩
    | skip
  refine loop_go hT hP (X := Int × Int) (fun (i, o) => St.mk [.dead, .dead, .dead, .cell (.ptr 0 0), .dead, .cell (.own 1), I o, I (colorF (vM M) (vP N)), .dead, I i, .dead, .dead, .dead, .dead, .dead, .dead, .dead, .dead, .dead, .dead, .dead, .dead, .dead, .dead, .dead, .dead, .dead, .dead, .dead, .dead, .dead, .dead, .dead, .dead, .dead, .dead, .dead, .dead, .dead, .dead, .dead, .dead, .dead, .dead, .dead, .dead, .dead, .dead, .dead, .dead, .dead, .dead, .dead, .dead, .dead, .dead, .dead, .dead, .dead, .dead, .dead, .dead, .dead, .dead, .dead, .dead, .dead, .dead, .dead, .dead, .dead, .dead, .dead, .dead, .dead, .dead, .dead, .dead, .dead, .dead, .dead, .dead, .dead, .dead, .dead, .dead, .dead, .dead, .dead, .dead, .dead, .dead, .dead, .dead, .dead, .dead, .dead, .dead, .dead, .dead, .dead, .dead, .dead, .dead, .dead, .dead, .dead, .dead, .dead, .dead, .dead, .dead, .dead, .dead, .dead, .dead, .dead, .dead, .dead, .dead, .dead, .dead, .dead, .dead, .dead, .dead, .dead, .dead, .dead, .dead, .dead, .dead, .dead] [some (.var [.own 1, .own 2]), some (.arr (.int .i64) (vN N)), some (.arr (.int .u8) (vM M))])
    (fun (i, o) => ∃ j : Nat, i = 2560 - (j : Int) ∧ j ≤ 2560 ∧ o = restD (vM M) (vP N) j) (fun (i, _) => i.toNat) (2560, 100000) (Le.mk [] [1, 2, 3] rfl rfl ?_ ?_) ?_ fun (i, o) hi => ?_
  rotate_right
  repeat' first
    | (refine Go.mk ?_; conv => whnf)
    | refine Need.go ?_ ?_
    | refine NilG.go (fun _ => ?_) (fun _ => ?_)
    | refine Br.dec (fun _ => ?_) (fun _ => ?_)
    | refine Br.go (fun _ => ?_) (fun _ => ?_)
    | refine draw_go hT hP mixed ?_
    | refine round_go hT hP ?_
  rotate_right 3
  · exact rfl
  · repeat' first | exact trivial | exact ⟨rfl, rfl⟩ | refine And.intro ?_ ?_
  · exact ⟨0, rfl, Nat.zero_le _, rfl⟩
  all_goals
    obtain ⟨j, rfl, hj, rfl⟩ := hi
    have hpos : Int.tmod (IntKind.i64.wrap (vP N + (2560 - (j : Int)))) 2560 = (vP N + (2560 - (j : Int))) % 2560 := by rw [w64 (by omega) (by omega), Int.tmod_eq_emod_of_nonneg (by omega)]
    have hpos2 : 0 ≤ Int.tmod (IntKind.i64.wrap (vP N + (2560 - (j : Int)))) 2560 ∧ Int.tmod (IntKind.i64.wrap (vP N + (2560 - (j : Int)))) 2560 < 2560 := by rw [hpos]; omega
  all_goals first
    | decide
    | exact ⟨vM_len M, vM_u8 hu, hpos2.1, hpos2.2⟩
    | (show (0 : Int) ≤ 0 ∧ (0 : Int) < 2
       decide)
    | (show 0 < 2
       decide)
    | skip
  · rename_i hh hlt
    have hh : (colorF (vM M) (Int.tmod (IntKind.i64.wrap (vP N + (2560 - (j : Int)))) 2560) != colorF (vM M) (vP N)) = true := by first | exact hh | exact hlt
    have hlt : 2560 - (j : Int) > 0 := by first | exact hlt | assumption
    rw [hpos] at hh
    have e : IntKind.i64.wrap (2560 - (j : Int) - 1) = 2560 - ((j + 1 : Nat) : Int) := by rw [w64 (by omega) (by omega)]; omega
    apply Exists.intro (_, _)
    refine And.intro ?_ (And.intro ?_ (Le.mk [] [0, 1, 2] rfl rfl ?hh ?ht))
    case hh => exact rfl
    case ht => repeat' first | exact trivial | exact ⟨rfl, rfl⟩ | refine And.intro ?_ ?_
    · refine ⟨j + 1, e, by omega, ?_⟩
      rw [restD_is _ _ (by unfold diffV; simpa using hh)]
      show IntKind.i64.wrap (2560 - (j : Int) - 1) = _
      rw [e]; omega
    · show (IntKind.i64.wrap (2560 - (j : Int) - 1)).toNat < (2560 - (j : Int)).toNat
      rw [e]; omega
  · rename_i hh hlt
    have hh : (colorF (vM M) (Int.tmod (IntKind.i64.wrap (vP N + (2560 - (j : Int)))) 2560) != colorF (vM M) (vP N)) = false := by first | exact hh | exact hlt
    have hlt : 2560 - (j : Int) > 0 := by first | exact hlt | assumption
    rw [hpos] at hh
    have e : IntKind.i64.wrap (2560 - (j : Int) - 1) = 2560 - ((j + 1 : Nat) : Int) := by rw [w64 (by omega) (by omega)]; omega
    apply Exists.intro (_, _)
    refine And.intro ?_ (And.intro ?_ (Le.mk [] [0, 1, 2] rfl rfl ?hh ?ht))
    case hh => exact rfl
    case ht => repeat' first | exact trivial | exact ⟨rfl, rfl⟩ | refine And.intro ?_ ?_
    · refine ⟨j + 1, e, by omega, ?_⟩
      rw [restD_go _ _ (by unfold diffV; simpa using hh)]
    · show (IntKind.i64.wrap (2560 - (j : Int) - 1)).toNat < (2560 - (j : Int)).toNat
      rw [e]; omega
  · rename_i hlt
    have hlt : ¬ 2560 - (j : Int) > 0 := hlt
    have ej : j = 2560 := by omega
    refine .mk [] [] _ rfl rfl rfl rfl rfl rfl (imm_int ?_)
    rw [ej]; rfl


end Go.Proofs.Ythpijepbbpcjeaa
