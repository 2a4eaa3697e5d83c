/- bakelaw1.VideoTicks answers true, whatever it is given. -/
import Derived.Test.YthpijepbbpcjeaaVideo3
namespace Go.Proofs.Ythpijepbbpcjeaa
open Go.Fw
set_option linter.unusedVariables false
set_option linter.unusedSimpArgs false
set_option maxRecDepth 100000

theorem iterV_form2 (m : List Int) {p h : Int} (hp : 0 ≤ p ∧ p < 2560) (hh : 0 ≤ h ∧ h < 2) (n : Nat) : vN (iterF (tickV m) n [p, h]) = iterF (tickV m) n [p, h] := by
  rw [iterV m hp]
  refine vN_idem (by omega) ?_
  split
  · decide
  · exact hh
theorem iterV_form (m N : List Int) (n : Nat) : vN (iterF (tickV m) n (vN N)) = iterF (tickV m) n (vN N) :=
  iterV_form2 m (vP_in N) (by show 0 ≤ N.getD 1 0 % 2 ∧ N.getD 1 0 % 2 < 2; omega) n
theorem len2 {l : List Int} (h : vN l = l) : l.length ≤ 4611686018427387904 := by
  rw [← h]; exact (by decide : 2 ≤ 4611686018427387904)
theorem lenM (M : List Int) : (vM M).length ≤ 4611686018427387904 := by rw [vM_len]; decide
def vtS : PSpec := ⟨[gD, gi], fun (d, k, _) => (some (u8s d.2), .cell (bv true), [])⟩
theorem vt_ok : Good Try.prog 3 vtS.spec := by
  have hT := tab_ok (fs := [(17, videosS.spec), (18, sameS.spec), (15, vformedS.spec), (16, vtickedS.spec), (19, vtickS.spec), (20, vskipS.spec)]) tree_ok
  have hP : SpecsOk Try.prog (tab tree [(17, videosS.spec), (18, sameS.spec), (15, vformedS.spec), (16, vtickedS.spec), (19, vtickS.spec), (20, vskipS.spec)]) := specs_cons videos_ok (specs_cons same_ok (specs_cons vformed_ok (specs_cons vticked_ok (specs_cons vtick_ok (specs_cons vskip_ok specs_nil)))))
  refine vtS.good (fn := Try.f3) hT hP Try.func3 (by kernel_rfl) rfl fun (d : Dv) (k : Int) hp => ?_
  obtain ⟨N, M⟩ := d
  have hu : u8s M := hp _ rfl
  repeat' first
    | (refine Go.mk ?_; conv => whnf)
    | refine Need.go ?_ ?_
    | refine NilG.go (fun _ => ?_) (fun _ => ?_)
    | refine Br.dec (fun _ => ?_) (fun _ => ?_)
    | refine Br.go (fun _ => ?_) (fun _ => ?_)
    | refine draw_go hT hP mixed ?_
    | refine round_go hT hP ?_
  · exact .mk [] [] _ rfl rfl rfl rfl rfl rfl rfl
  · exact rfl
  rename_i hk
  refine loop_go hT hP (X := Int × List Int × List Int) (fun (i, l, m) => St.mk [.dead, I k, .cell (.ptr 0 0), .dead, .dead, .cell (.ptr 1 0), .cell (.ptr 4 0), .dead, .dead, .dead, .dead, .dead, .dead, I k, I i, .dead, .dead, .dead, .dead, .dead, .dead, .dead, .dead, .dead, .dead, .dead, .dead, .dead, .dead, .dead, .dead, .dead, .dead, .dead, .dead, .dead]
      [some (.var [.ro (.int .i64) N, .ro (.int .u8) M]), some (.var [.imm (.string ByteArray.empty), iv .i64 6, iv .i64 0, iv .i64 0, .imm (.slice none 0 0)]), some (.arr (.int .i64) l), some (.arr (.int .u8) m), some (.var [.own 2, .own 3])])
    (fun (i, l, m) => ∃ j : Nat, i = j ∧ j ≤ k.toNat ∧ l = iterF (tickV (vM M)) j (vN N) ∧ m = vM M) (fun (i, _) => (k - i).toNat) (0, vN N, vM M) (Le.mk [] [0, 1, 2, 3, 4] rfl rfl ?_ ?_) ?_ fun (i, l, m) hi => ?_
  rotate_right
  repeat' first
    | (refine Go.mk ?_; conv => whnf)
    | refine Need.go ?_ ?_
    | refine NilG.go (fun _ => ?_) (fun _ => ?_)
    | refine Br.dec (fun _ => ?_) (fun _ => ?_)
    | refine Br.go (fun _ => ?_) (fun _ => ?_)
    | refine draw_go hT hP mixed ?_
    | refine round_go hT hP ?_
  rotate_right 3
  · exact rfl
  · repeat' first | exact trivial | exact ⟨rfl, rfl⟩ | refine And.intro ?_ ?_
  · exact ⟨0, rfl, Nat.zero_le _, rfl, rfl⟩
  all_goals first
    | exact rfl
    | exact of_decide_eq_true rfl
    | exact hu
    | exact ⟨rfl, hu⟩
    | (obtain ⟨j, rfl, hj, hl, hm⟩ := hi
       exact ⟨rfl, (by rw [hm]; exact vM_u8 hu : u8s m)⟩)
    | (refine ⟨hu, ?_⟩
       show k ≤ _; omega)
    | exact ⟨len2 (iterV_form (vM M) N k.toNat), lenM M⟩
    | exact ⟨len2 (iterV_form (vM M) N 1), lenM M⟩
    | (exfalso; rename_i h
       have h : (decide (tickV (vM M) (vN N) = tickV (vM M) (vN N)) && decide (vM M = vM M)) = false := h
       simp at h; done)
    | skip
  · obtain ⟨j, rfl, hj, hl, hm⟩ := hi
    have e : IntKind.i64.wrap ((j : Int) + 1) = ((j + 1 : Nat) : Int) := by rw [w64 (by omega) (by omega)]; omega
    have em : vM m = m := by rw [hm, vM_idem (vM_len M)]
    apply Exists.intro (_, _, _)
    refine And.intro ?_ (And.intro ?_ (Le.mk [] [0, 1, 5, 6, 4] rfl rfl ?hh ?ht))
    case hh => exact rfl
    case ht => repeat' first | exact trivial | exact ⟨rfl, rfl⟩ | refine And.intro ?_ ?_
    · refine ⟨j + 1, e, by omega, ?_, ?_⟩
      · show tickV (vM m) (vN l) = _
        rw [em, hm, hl, iterV_form, iterF_succ]
      · show vM m = vM M
        rw [em, hm]
    · show (k - IntKind.i64.wrap ((j : Int) + 1)).toNat < (k - (j : Int)).toNat
      rw [e]; omega
  · obtain ⟨j, rfl, hj, hl, hm⟩ := hi
    refine .mk [] [] _ rfl rfl rfl rfl rfl rfl (imm_bool ?_)
    have e : k.toNat = j := by omega
    show (bif true then (decide (iterF (tickV (vM M)) k.toNat (vN N) = l) && decide (vM M = m)) else false) = true
    rw [e, hl, hm]; simp

end Go.Proofs.Ythpijepbbpcjeaa
