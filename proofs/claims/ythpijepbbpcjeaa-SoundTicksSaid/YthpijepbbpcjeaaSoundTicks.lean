/- bakelaw1.SoundTicks answers true, whatever it is given. -/
import Derived.Test.YthpijepbbpcjeaaSound5
namespace Go.Proofs.Ythpijepbbpcjeaa
open Go.Fw
set_option linter.unusedVariables false
set_option linter.unusedSimpArgs false
set_option maxRecDepth 100000

theorem sndN_form (N : List Int) : sndN (sndN N) = sndN N := snd_idem (vo_ok N 0) (vo_ok N 6)
theorem iterW_form (N : List Int) (n : Nat) : sndN (iterF tickW n (sndN N)) = iterF tickW n (sndN N) := by
  have e : iterF tickW n (sndN N) = iterF (passV 1) n (vo N 0) ++ iterF (passV 1) n (vo N 6) := iterW (vo_ok N 0) (vo_ok N 6) n
  rw [e]
  exact snd_idem (iterP_ok (vo_ok N 0) n) (iterP_ok (vo_ok N 6) n)
theorem len12 {l : List Int} (h : sndN l = l) : l.length ≤ 4611686018427387904 := by
  rw [← h]; exact (by decide : 12 ≤ 4611686018427387904)
def otS : PSpec := ⟨[gD, gi], fun (d, k, _) => (none, .cell (bv true), [])⟩
theorem ot_ok : Good Try.prog 6 otS.spec := by
  have hT := tab_ok (fs := [(41, soundsS.spec), (18, sameS.spec), (15, oformedS.spec), (16, otickedS.spec), (42, otickS.spec), (43, oskipS.spec)]) tree_ok
  have hP : SpecsOk Try.prog (tab tree [(41, soundsS.spec), (18, sameS.spec), (15, oformedS.spec), (16, otickedS.spec), (42, otickS.spec), (43, oskipS.spec)]) := specs_cons sounds_ok (specs_cons same_ok (specs_cons oformed_ok (specs_cons oticked_ok (specs_cons otick_ok (specs_cons oskip_ok specs_nil)))))
  refine otS.good (fn := Try.f6) hT hP Try.func6 (by kernel_rfl) rfl fun (d : Dv) (k : Int) _ => ?_
  obtain ⟨N, M⟩ := d
  repeat' first
    | (refine Go.mk ?_; conv => whnf)
    | refine Need.go ?_ ?_
    | refine NilG.go (fun _ => ?_) (fun _ => ?_)
    | refine Br.dec (fun _ => ?_) (fun _ => ?_)
    | refine Br.go (fun _ => ?_) (fun _ => ?_)
    | refine draw_go hT hP mixed ?_
    | refine round_go hT hP ?_
  · exact .mk [] [] _ rfl rfl rfl rfl rfl rfl rfl
  · exact rfl
  rename_i hk
  refine loop_go hT hP (X := Int × List Int) (fun (i, l) => St.mk [.dead, I k, .cell (.ptr 0 0), .dead, .dead, .cell (.ptr 1 0), .cell (.ptr 3 0), .dead, .dead, .dead, .dead, .dead, .dead, I k, I i, .dead, .dead, .dead, .dead, .dead, .dead, .dead, .dead, .dead, .dead, .dead, .dead, .dead, .dead, .dead, .dead, .dead, .dead, .dead, .dead, .dead]
      [some (.var [.ro (.int .i64) N, .ro (.int .u8) M]), some (.var [.imm (.string ByteArray.empty), iv .i64 7, iv .i64 0, iv .i64 0, .imm (.slice none 0 0)]), some (.arr (.int .i64) l), some (.var [.own 2, .imm (.slice none 0 0)])])
    (fun (i, l) => ∃ j : Nat, i = j ∧ j ≤ k.toNat ∧ l = iterF tickW j (sndN N) ∧ sndN l = l) (fun (i, _) => (k - i).toNat) (0, sndN N) (Le.mk [] [0, 1, 2, 3] rfl rfl ?_ ?_) ?_ fun (i, l) hi => ?_
  rotate_right
  repeat' first
    | (refine Go.mk ?_; conv => whnf)
    | refine Need.go ?_ ?_
    | refine NilG.go (fun _ => ?_) (fun _ => ?_)
    | refine Br.dec (fun _ => ?_) (fun _ => ?_)
    | refine Br.go (fun _ => ?_) (fun _ => ?_)
    | refine draw_go hT hP mixed ?_
    | refine round_go hT hP ?_
  rotate_right 3
  · exact rfl
  · repeat' first | exact trivial | exact ⟨rfl, rfl⟩ | refine And.intro ?_ ?_
  · exact ⟨0, rfl, by omega, rfl, sndN_form N⟩
  all_goals first
    | exact rfl
    | exact of_decide_eq_true rfl
    | (exfalso; rename_i h; simp at h; done)
    | exact ⟨len12 (iterW_form N 1), Nat.zero_le _⟩
    | exact ⟨len12 (iterW_form N k.toNat), Nat.zero_le _⟩
    | (show k ≤ _; omega)
    | skip
  · obtain ⟨j, rfl, hj, hl, hf⟩ := hi
    have e : IntKind.i64.wrap ((j : Int) + 1) = ((j + 1 : Nat) : Int) := by rw [w64 (by omega) (by omega)]; omega
    apply Exists.intro (_, _)
    refine And.intro ?_ (And.intro ?_ (Le.mk [] [0, 1, 4, 3] rfl rfl ?hh ?ht))
    case hh => exact rfl
    case ht => repeat' first | exact trivial | exact ⟨rfl, rfl⟩ | refine And.intro ?_ ?_
    · refine ⟨j + 1, e, by omega, ?_, ?_⟩
      · show tickW (sndN l) = _
        rw [hf, hl, iterF_succ]
      · show sndN (tickW (sndN l)) = tickW (sndN l)
        rw [hf, hl, ← iterF_succ tickW j (sndN N)]; exact iterW_form N (j + 1)
    · show (k - IntKind.i64.wrap ((j : Int) + 1)).toNat < (k - (j : Int)).toNat
      rw [e]; omega
  · obtain ⟨j, rfl, hj, hl, hf⟩ := hi
    refine .mk [] [] _ rfl rfl rfl rfl rfl rfl (imm_bool ?_)
    have e : k.toNat = j := by omega
    show (bif true then (decide (iterF tickW k.toNat (sndN N) = l) && decide (([] : List Int) = [])) else false) = true
    rw [e, hl]; simp

end Go.Proofs.Ythpijepbbpcjeaa
