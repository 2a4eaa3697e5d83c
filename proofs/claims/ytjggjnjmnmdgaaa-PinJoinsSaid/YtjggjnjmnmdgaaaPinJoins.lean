/- bakelaw1.PinJoins answers true, whatever it is given. -/
import Derived.Test.YtjggjnjmnmdgaaaPin
namespace Go.Proofs.Ytjggjnjmnmdgaaa
open Go.Fw
set_option linter.unusedVariables false
set_option linter.unusedSimpArgs false
set_option maxRecDepth 100000

theorem fit_zero (l : List Int) : (l.any fun x => decide (fitF x = 0)) = l.any fun a => decide (0 = a) := by
  congr 1
  funext x
  have : (fitF x = 0) ↔ (0 = x) := by unfold fitF; constructor <;> intro h <;> (repeat' split at *) <;> omega
  simp only [this]
def pjS : PSpec := ⟨[gl, gi, gi], fun (l, a, b, _) => (some (List.length l ≤ 4611686018427387904), .cell (bv true), [])⟩
theorem pj_ok : Good Try.prog 13 pjS.spec := by
  have hT := tab_ok (fs := [(50, linesS.spec), (51, lineS.spec), (67, cfnS.spec), (64, containsS.spec), (69, joinS.spec), (70, allS.spec), (71, pullS.spec), (72, wiredS.spec)]) tree_ok
  have hP : SpecsOk Try.prog (tab tree [(50, linesS.spec), (51, lineS.spec), (67, cfnS.spec), (64, containsS.spec), (69, joinS.spec), (70, allS.spec), (71, pullS.spec), (72, wiredS.spec)]) := specs_cons lines_ok (specs_cons line_ok (specs_cons cfn_ok (specs_cons contains_ok (specs_cons join_ok (specs_cons all_ok (specs_cons pull_ok (specs_cons wired_ok specs_nil)))))))
  refine pjS.good (fn := Try.f13) hT hP Try.func13 (by kernel_rfl) rfl fun (l : List Int) (a b : Int) hp => ?_
  have hp : l.length ≤ 4611686018427387904 := hp _ rfl
  have f1 : joinF a b = lineF [a, b] := (line_two a b).symm
  have f2 : allF l = lineF l := allF_line l
  have f3 : a = 2 → pullF a b = lineF [b] := by rintro rfl; rw [line_one]; rfl
  have f4 : ¬ a = 2 → pullF a b = lineF [a] := by
    intro h
    rw [line_one]
    unfold pullF
    rw [if_neg]
    unfold fitF
    split <;> (try split) <;> omega
  repeat' first
    | (refine Go.mk ?_; conv => whnf)
    | refine Need.go ?_ ?_
    | refine NilG.go (fun _ => ?_) (fun _ => ?_)
    | refine Br.dec (fun _ => ?_) (fun _ => ?_)
    | refine Br.go (fun _ => ?_) (fun _ => ?_)
    | refine draw_go hT hP mixed ?_
  all_goals first
    | exact hp
    | exact (by decide : (1 : Nat) ≤ 4611686018427387904)
    | exact (by decide : (2 : Nat) ≤ 4611686018427387904)
    | (rename_i h; exact absurd f1 h)
    | (rename_i h; exact absurd f2 h)
    | (rename_i h2 _ _ h; exact absurd (f3 h2) h)
    | (rename_i h2 _ _ h; exact absurd (f4 h2) h)
    | (rename_i h3 h0 h2 _ _ h
       refine .mk [] [] _ rfl rfl rfl rfl rfl rfl (imm_bool ?_)
       have h0 : (l.any fun a => decide (0 = a)) = true := h0
       show (wiredF l b == 0) = true
       unfold wiredF
       rw [fit_zero, if_pos h0]; rfl)
    | (rename_i h3 h0 h2 _ _ h
       refine .mk [] [] _ rfl rfl rfl rfl rfl rfl (imm_bool ?_)
       have h0 : (l.any fun a => decide (0 = a)) = false := h0
       show (wiredF l b == 3) = true
       unfold wiredF
       rw [fit_zero, if_neg (by rw [h0]; simp), if_pos h3]; rfl)
    | (rename_i h3 h0 h2 _ _ h
       refine .mk [] [] _ rfl rfl rfl rfl rfl rfl (imm_bool ?_)
       have h0 : (l.any fun a => decide (0 = a)) = false := h0
       show (wiredF l b == lineF [b]) = true
       unfold wiredF
       rw [fit_zero, if_neg (by rw [h0]; simp), if_neg (by rw [h3]; simp), line_one]; simp)

end Go.Proofs.Ytjggjnjmnmdgaaa
