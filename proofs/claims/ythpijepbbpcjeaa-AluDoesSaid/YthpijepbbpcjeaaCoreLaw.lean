/- bakelaw1.CoreAsks answers true, whatever it is given. -/
import Derived.Test.YthpijepbbpcjeaaCoreAsks
namespace Go.Proofs.Ythpijepbbpcjeaa
open Go.Fw
set_option linter.unusedVariables false
set_option linter.unusedSimpArgs false
set_option maxRecDepth 100000

-- the law

theorem denEq_self : ∀ {u : Ty} {x : Den u}, u.flat = true → denEq u x x = true
  | .int _, x, _ => by simp [denEq]
  | .ints _ _, x, _ => by simp [denEq]
  | .bool, x, _ => by simp [denEq]
  | .str, x, _ => by simp [denEq, strEq]
  | .sl _, _, h => by cases h
  | .pair a b, x, h => by
    simp only [Ty.flat, Bool.and_eq_true] at h
    simp only [denEq, denEq_self h.1, denEq_self h.2, Bool.and_self]
def kNewS : PSpec := ⟨[], fun _ => (none, .agg [.run .i64 9 [0, 0, 0, 0, 4, 0, 0, 0, 0], iv .i64 258, iv .i64 0, bv false], [])⟩
theorem kNew_ok : Good Try.prog 63 kNewS.spec := by
  have hT := tab_ok (fs := []) tree_ok
  have hP : SpecsOk Try.prog (tab tree []) := specs_nil
  refine kNewS.good (fn := Try.f63) hT hP Try.func63 (by kernel_rfl) rfl fun _ => ?_
  repeat' first
    | (refine Go.mk ?_; conv => whnf)
    | refine Need.go ?_ ?_
    | refine NilG.go (fun _ => ?_) (fun _ => ?_)
    | refine Br.dec (fun _ => ?_) (fun _ => ?_)
    | refine Br.go (fun _ => ?_) (fun _ => ?_)
    | refine draw_go hT hP mixed ?_
    | refine round_go hT hP ?_
  all_goals first
    | exact of_decide_eq_true rfl
    | exact .mk [] [] _ rfl rfl rfl rfl rfl rfl rfl
def kNmiS : PSpec := ⟨[gK], fun (k, _) => (none, .agg [.run .i64 9 k.1, iv .i64 k.2.1, iv .i64 k.2.2.1, bv true], [])⟩
theorem kNmi_ok : Good Try.prog 64 kNmiS.spec := by
  have hT := tab_ok (fs := []) tree_ok
  have hP : SpecsOk Try.prog (tab tree []) := specs_nil
  refine kNmiS.good (fn := Try.f64) hT hP Try.func64 (by kernel_rfl) rfl fun (k : Kor) _ => ?_
  obtain ⟨r, op, at_, n⟩ := k
  repeat' first
    | (refine Go.mk ?_; conv => whnf)
    | refine Need.go ?_ ?_
    | refine NilG.go (fun _ => ?_) (fun _ => ?_)
    | refine Br.dec (fun _ => ?_) (fun _ => ?_)
    | refine Br.go (fun _ => ?_) (fun _ => ?_)
    | refine draw_go hT hP mixed ?_
    | refine round_go hT hP ?_
  all_goals first
    | exact of_decide_eq_true rfl
    | exact .mk [] [] _ rfl rfl rfl rfl rfl rfl rfl
def coresS : PSpec := ⟨[], fun _ => (none, .cell (bv true), [])⟩
theorem cores_ok : Good Try.prog 60 coresS.spec := by
  have hT := tab_ok (fs := [(63, kNewS.spec)]) tree_ok
  have hP : SpecsOk Try.prog (tab tree [(63, kNewS.spec)]) := specs_cons kNew_ok specs_nil
  refine coresS.good (fn := Try.f60) hT hP Try.func60 (by kernel_rfl) rfl fun _ => ?_
  repeat' first
    | (refine Go.mk ?_; conv => whnf)
    | refine Need.go ?_ ?_
    | refine NilG.go (fun _ => ?_) (fun _ => ?_)
    | refine Br.dec (fun _ => ?_) (fun _ => ?_)
    | refine Br.go (fun _ => ?_) (fun _ => ?_)
    | refine draw_go hT hP mixed ?_
    | refine round_go hT hP ?_
  all_goals first
    | exact of_decide_eq_true rfl
    | exact .mk [] [] _ rfl rfl rfl rfl rfl rfl rfl
def caS : PSpec := ⟨[gCpu, gK, gB], fun (c, k, i, _) => (some (askP c k), .cell (bv true), [])⟩
theorem ca_ok : Good Try.prog 11 caS.spec := by
  have hT := tab_ok (fs := [(60, coresS.spec), (63, kNewS.spec), (64, kNmiS.spec), (61, askS.spec), (62, askS.spec)]) tree_ok
  have hP : SpecsOk Try.prog (tab tree [(60, coresS.spec), (63, kNewS.spec), (64, kNmiS.spec), (61, askS.spec), (62, askS.spec)]) := specs_cons cores_ok (specs_cons kNew_ok (specs_cons kNmi_ok (specs_cons ask_ok (specs_cons asked_ok specs_nil))))
  refine caS.good (fn := Try.f11) hT hP Try.func11 (by kernel_rfl) rfl fun (c : Cpu) (k : Kor) (i : Bool) hp => ?_
  obtain ⟨cn, ci, cr, cq, cm⟩ := c
  obtain ⟨r, op, at_, n⟩ := k
  have hz : askP (cn, ci, cr, cq, cm) (r, op, at_, n) := hp _ rfl
  clear hp
  repeat' first
    | (refine Go.mk ?_; conv => whnf)
    | refine Need.go ?_ ?_
    | refine NilG.go (fun _ => ?_) (fun _ => ?_)
    | refine Br.dec (fun _ => ?_) (fun _ => ?_)
    | refine Br.go (fun _ => ?_) (fun _ => ?_)
    | refine draw_go hT hP mixed ?_
    | refine round_go hT hP ?_
  all_goals first
    | exact hz
    | exact of_decide_eq_true rfl
    | skip
  all_goals (try refine .mk [] [] _ rfl rfl rfl rfl rfl rfl (imm_bool ?_))
  all_goals clear hT hP
  all_goals (simp only [castL_eq] at *)
  all_goals first
    | (rw [denEq_self rfl]; rfl)
    | (exfalso; rename_i h; rw [denEq_self rfl] at h; cases h; done)
    | skip

end Go.Proofs.Ythpijepbbpcjeaa
