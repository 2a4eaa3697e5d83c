/- bakelaw1.DriveTicks answers true, whatever it is given. -/
import Derived.Test.YthpijepbbpcjeaaTurn2
namespace Go.Proofs.Ythpijepbbpcjeaa
open Go.Fw
set_option linter.unusedVariables false
set_option linter.unusedSimpArgs false
set_option maxRecDepth 100000

theorem form_id {q : Nat} {s : DS} (h : DOk q s) : (dN s.1 (qF s.2), dM s.2) = s := by
  obtain ⟨l, m⟩ := s
  obtain ⟨h1, h2, h3⟩ := h
  have h1 : dOk q l := h1
  have h2 : m.length = q * 256 := h2
  have e : qF m = q := by unfold qF; omega
  show (dN l (qF m), dM m) = (l, m)
  have e2 : dM m = m := by unfold dM; rw [e, ← h2, List.take_length]
  rw [e, dN_idem h1, e2]
theorem DOk.lens {q : Nat} {s : DS} (h : DOk q s) (hq : q * 256 ≤ 140737488355328) : s.1.length ≤ 4611686018427387904 ∧ s.2.length ≤ 4611686018427387904 := by
  refine ⟨?_, ?_⟩
  · rw [h.n.len]; decide
  · rw [h.m]; omega
def dtP (d : Dv) : Prop := List.length d.2 ≤ 140737488355328 ∧ u8s d.2
def dtS : PSpec := ⟨[gD, gi], fun (d, k, _) => (some (dtP d), .cell (bv true), [])⟩
set_option maxHeartbeats 8000000 in
theorem dt_ok : Good Try.prog 9 dtS.spec := by
  have hT := tab_ok (fs := [(50, drivesS.spec), (18, sameS.spec), (15, dformedRS.spec), (16, dtickedS.spec), (51, dtickS.spec), (52, dskipS.spec)]) tree_ok
  have hP : SpecsOk Try.prog (tab tree [(50, drivesS.spec), (18, sameS.spec), (15, dformedRS.spec), (16, dtickedS.spec), (51, dtickS.spec), (52, dskipS.spec)]) := specs_cons drives_ok (specs_cons same_ok (specs_cons dformedR_ok (specs_cons dticked_ok (specs_cons dtick_ok (specs_cons dskip_ok specs_nil)))))
  refine dtS.good (fn := Try.f9) hT hP Try.func9 (by kernel_rfl) rfl fun (d : Dv) (k : Int) hp => ?_
  obtain ⟨N, M⟩ := d
  obtain ⟨hl, hu⟩ : M.length ≤ 140737488355328 ∧ u8s M := hp _ rfl
  have hn := DOkN N hu
  have hq2 := qF_le M
  have hlt := (turnF_ok hn).lens (by omega)
  have hls := (iterT_ok hn k.toNat).lens (by omega)
  clear hp
  repeat' first
    | (refine Go.mk ?_; conv => whnf)
    | refine Need.go ?_ ?_
    | refine NilG.go (fun _ => ?_) (fun _ => ?_)
    | refine Br.dec (fun _ => ?_) (fun _ => ?_)
    | refine Br.go (fun _ => ?_) (fun _ => ?_)
    | refine draw_go hT hP mixed ?_
    | refine round_go hT hP ?_
  · exact .mk [] [] _ rfl rfl rfl rfl rfl rfl rfl
  · exact ⟨rfl, hl⟩
  rename_i hk
  refine loop_go hT hP (X := Int × List Int × List Int) (fun (i, l, m) => St.mk [.dead, I k, .cell (.ptr 0 0), .dead, .dead, .cell (.ptr 1 0), .cell (.ptr 2 0), .dead, .dead, .dead, .dead, .dead, .dead, I k, I i, .dead, .dead, .dead, .dead, .dead, .dead, .dead, .dead, .dead, .dead, .dead, .dead, .dead, .dead, .dead, .dead, .dead, .dead, .dead, .dead, .dead]
      [some (.var [.ro (.int .i64) N, .ro (.int .u8) M]), some (.var [.imm (.string ByteArray.empty), iv .i64 8, iv .i64 0, iv .i64 0, .imm (.slice none 0 0)]), some (.var [.ro (.int .i64) l, .ro (.int .u8) m])])
    (fun (i, l, m) => ∃ j : Nat, i = j ∧ j ≤ k.toNat ∧ DOk (qF M) (l, m) ∧ (l, m) = iterA turnF j (dN N (qF M), dM M)) (fun (i, _) => (k - i).toNat) (0, dN N (qF M), dM M) (Le.mk [2] [0, 1, 3] rfl rfl ?_ ?_) ?_ fun (i, l, m) hi => ?_
  rotate_right
  repeat' first
    | (refine Go.mk ?_; conv => whnf)
    | refine Need.go ?_ ?_
    | refine NilG.go (fun _ => ?_) (fun _ => ?_)
    | refine Br.dec (fun _ => ?_) (fun _ => ?_)
    | refine Br.go (fun _ => ?_) (fun _ => ?_)
    | refine draw_go hT hP mixed ?_
    | refine round_go hT hP ?_
  rotate_right 3
  · exact rfl
  · repeat' first | exact trivial | exact ⟨rfl, rfl⟩ | refine And.intro ?_ ?_
  · exact ⟨0, rfl, Nat.zero_le _, hn, rfl⟩
  all_goals first
    | exact of_decide_eq_true rfl
    | exact ⟨hl, hu⟩
    | exact ⟨rfl, hl, hu⟩
    | exact ⟨hl, hu, by show k ≤ _; omega⟩
    | exact hlt
    | exact hls
    | (obtain ⟨j, rfl, hj, hd, he⟩ := hi
       exact ⟨rfl, by have := hd.m; show m.length ≤ _; have : m.length = qF M * 256 := this; omega, hd.u⟩)
    | (exfalso; rename_i h
       have h : (decide ((turnF (dN N (qF M), dM M)).1 = (turnF (dN N (qF M), dM M)).1) && decide ((turnF (dN N (qF M), dM M)).2 = (turnF (dN N (qF M), dM M)).2)) = false := h
       simp at h; done)
    | skip
  · obtain ⟨j, rfl, hj, hd, he⟩ := hi
    have e : IntKind.i64.wrap ((j : Int) + 1) = ((j + 1 : Nat) : Int) := by rw [w64 (by omega) (by omega)]; omega
    have ef : (dN l (qF m), dM m) = (l, m) := form_id hd
    apply Exists.intro (_, _, _)
    refine And.intro ?_ (And.intro ?_ (Le.mk [3] [0, 1, 2] rfl rfl ?hh ?ht))
    case hh => exact rfl
    case ht => repeat' first | exact trivial | exact ⟨rfl, rfl⟩ | refine And.intro ?_ ?_
    · refine ⟨j + 1, e, by omega, ?_, ?_⟩
      · show DOk (qF M) (turnF (dN l (qF m), dM m))
        rw [ef]; exact turnF_ok hd
      · show turnF (dN l (qF m), dM m) = _
        rw [ef, he, iterA_succ]
    · show (k - IntKind.i64.wrap ((j : Int) + 1)).toNat < (k - (j : Int)).toNat
      rw [e]; omega
  · obtain ⟨j, rfl, hj, hd, he⟩ := hi
    refine .mk [] [] _ rfl rfl rfl rfl rfl rfl (imm_bool ?_)
    have e : k.toNat = j := by omega
    show (bif true then (decide ((iterA turnF k.toNat (dN N (qF M), dM M)).1 = l) && decide ((iterA turnF k.toNat (dN N (qF M), dM M)).2 = m)) else false) = true
    rw [e, ← he]; simp

end Go.Proofs.Ythpijepbbpcjeaa
