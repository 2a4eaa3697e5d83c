/- bakelaw1.SerialTicks answers true, whatever it is given. -/
import Derived.Test.YtjggjnjmnmdgaaaSerial
namespace Go.Proofs.Ytjggjnjmnmdgaaa
open Go.Fw
set_option linter.unusedVariables false
set_option linter.unusedSimpArgs false
set_option maxRecDepth 100000

def stS : PSpec := ⟨[gD, gi], fun (d, k, _) => (none, .cell (bv true), [])⟩
theorem st_ok : Good Try.prog 14 stS.spec := by
  have hT := tab_ok (fs := [(73, serialsS.spec), (39, sameS.spec), (55, sformedS.spec), (56, stickedS.spec), (74, stickS.spec), (75, sskipS.spec)]) tree_ok
  have hP : SpecsOk Try.prog (tab tree [(73, serialsS.spec), (39, sameS.spec), (55, sformedS.spec), (56, stickedS.spec), (74, stickS.spec), (75, sskipS.spec)]) := specs_cons serials_ok (specs_cons same_ok (specs_cons sformed_ok (specs_cons sticked_ok (specs_cons stick_ok (specs_cons sskip_ok specs_nil)))))
  refine stS.good (fn := Try.f14) hT hP Try.func14 (by kernel_rfl) rfl fun (d : Dv) (k : Int) _ => ?_
  obtain ⟨N, M⟩ := d
  repeat' first
    | (refine Go.mk ?_; conv => whnf)
    | refine Need.go ?_ ?_
    | refine NilG.go (fun _ => ?_) (fun _ => ?_)
    | refine Br.dec (fun _ => ?_) (fun _ => ?_)
    | refine Br.go (fun _ => ?_) (fun _ => ?_)
    | refine draw_go hT hP mixed ?_
    | refine round_go hT hP ?_
  · exact .mk [] [] _ rfl rfl rfl rfl rfl rfl rfl
  · exact rfl
  rename_i hk
  refine loop_go hT hP (X := Int × List Int) (fun (i, l) => St.mk [.dead, I k, .cell (.ptr 0 0), .dead, .dead, .cell (.ptr 1 0), .cell (.ptr 3 0), .dead, .dead, .dead, .dead, .dead, .dead, I k, I i, .dead, .dead, .dead, .dead, .dead, .dead, .dead, .dead, .dead, .dead, .dead, .dead, .dead, .dead, .dead, .dead, .dead, .dead, .dead, .dead, .dead]
      [some (.var [.ro (.int .i64) N, .ro (.int .u8) M]), some (.var [.imm (.string ByteArray.empty), iv .i64 5, iv .i64 0, iv .i64 0, .imm (.slice none 0 0)]), some (.arr (.int .i64) l), some (.var [.own 2, .imm (.slice none 0 0)])])
    (fun (i, l) => ∃ j : Nat, i = j ∧ j ≤ k.toNat ∧ l = iterF tickS j (serN N) ∧ serN l = l) (fun (i, _) => (k - i).toNat) (0, serN N) (Le.mk [] [0, 1, 2, 3] rfl rfl ?_ ?_) ?_ fun (i, l) hi => ?_
  rotate_right
  repeat' first
    | (refine Go.mk ?_; conv => whnf)
    | refine Need.go ?_ ?_
    | refine NilG.go (fun _ => ?_) (fun _ => ?_)
    | refine Br.dec (fun _ => ?_) (fun _ => ?_)
    | refine Br.go (fun _ => ?_) (fun _ => ?_)
    | refine draw_go hT hP mixed ?_
    | refine round_go hT hP ?_
  rotate_right 3
  · exact rfl
  · repeat' first | exact trivial | exact ⟨rfl, rfl⟩ | refine And.intro ?_ ?_
  · exact ⟨0, rfl, by omega, rfl, serN_form N⟩
  all_goals first
    | exact rfl
    | exact of_decide_eq_true rfl
    | (exfalso; rename_i h; simp at h; done)
    | exact ⟨len8 (tickS_form (serN_form N)), Nat.zero_le _⟩
    | exact ⟨len8 (iterS_form N k.toNat), Nat.zero_le _⟩
    | (show k ≤ _; omega)
    | skip
  · obtain ⟨j, rfl, hj, hl, hf⟩ := hi
    have e : IntKind.i64.wrap ((j : Int) + 1) = ((j + 1 : Nat) : Int) := by rw [w64 (by omega) (by omega)]; omega
    apply Exists.intro (_, _)
    refine And.intro ?_ (And.intro ?_ (Le.mk [] [0, 1, 4, 3] rfl rfl ?hh ?ht))
    case hh => exact rfl
    case ht => repeat' first | exact trivial | exact ⟨rfl, rfl⟩ | refine And.intro ?_ ?_
    · refine ⟨j + 1, e, by omega, ?_, ?_⟩
      · show tickS (serN l) = _
        rw [hf, hl, iterF_succ]
      · show serN (tickS (serN l)) = tickS (serN l)
        rw [hf]; exact tickS_form hf
    · show (k - IntKind.i64.wrap ((j : Int) + 1)).toNat < (k - (j : Int)).toNat
      rw [e]; omega
  · obtain ⟨j, rfl, hj, hl, hf⟩ := hi
    refine .mk [] [] _ rfl rfl rfl rfl rfl rfl (imm_bool ?_)
    have e : k.toNat = j := by omega
    show (bif true then (decide (iterF tickS k.toNat (serN N) = l) && decide (([] : List Int) = [])) else false) = true
    rw [e, hl]; simp

end Go.Proofs.Ytjggjnjmnmdgaaa
