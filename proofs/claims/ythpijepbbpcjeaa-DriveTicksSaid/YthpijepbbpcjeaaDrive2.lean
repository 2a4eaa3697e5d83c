/- The chip that reads and writes disks: its first state. -/
import Derived.Test.YthpijepbbpcjeaaDrive
import Derived.Test.YthpijepbbpcjeaaFw33
namespace Go.Proofs.Ythpijepbbpcjeaa
open Go.Fw
set_option linter.unusedVariables false
set_option linter.unusedSimpArgs false
set_option maxRecDepth 100000

def dfresh0S : PSpec := ⟨[gC], fun (c, _) => (some (c.2.1 = 8 ∧ List.length c.2.2.2.2 ≤ 140737488355328 ∧ qF c.2.2.2.2 = 0), .agg [.own 0, .imm (.slice none 0 0)], [.arr (.int .i64) (dN [] (qF c.2.2.2.2))])⟩
theorem dfresh0_ok : Good Try.prog 23 dfresh0S.spec := by
  have hT := tab_ok (fs := [(15, dformed0S.spec)]) tree_ok
  have hP : SpecsOk Try.prog (tab tree [(15, dformed0S.spec)]) := specs_cons dformed0_ok specs_nil
  refine dfresh0S.good (fn := Try.f23) hT hP Try.func23 (by kernel_rfl) rfl fun (c : Cv) hp => ?_
  obtain ⟨cn, ck, cb, cs, cd⟩ := c
  obtain ⟨rfl, hl, h0⟩ : ck = 8 ∧ cd.length ≤ 140737488355328 ∧ qF cd = 0 := hp _ rfl
  repeat' first
    | (refine Go.mk ?_; conv => whnf)
    | refine Need.go ?_ ?_
    | refine NilG.go (fun _ => ?_) (fun _ => ?_)
    | refine Br.dec (fun _ => ?_) (fun _ => ?_)
    | refine Br.go (fun _ => ?_) (fun _ => ?_)
    | refine draw_go hT hP mixed ?_
    | refine round_go hT hP ?_
  · exact ⟨rfl, hl, h0⟩
  · exact .mk [] [2] _ rfl rfl rfl rfl rfl rfl rfl
def dfresh1S : PSpec := ⟨[gC], fun (c, _) => (some (c.2.1 = 8 ∧ List.length c.2.2.2.2 ≤ 140737488355328 ∧ 0 < qF c.2.2.2.2), .agg [.own 0, .own 1], [.arr (.int .i64) (dN [] (qF c.2.2.2.2)), .arr (.int .u8) (dM c.2.2.2.2)])⟩
theorem dfresh1_ok : Good Try.prog 23 dfresh1S.spec := by
  have hT := tab_ok (fs := [(15, dformed1S.spec)]) tree_ok
  have hP : SpecsOk Try.prog (tab tree [(15, dformed1S.spec)]) := specs_cons dformed1_ok specs_nil
  refine dfresh1S.good (fn := Try.f23) hT hP Try.func23 (by kernel_rfl) rfl fun (c : Cv) hp => ?_
  obtain ⟨cn, ck, cb, cs, cd⟩ := c
  obtain ⟨rfl, hl, h0⟩ : ck = 8 ∧ cd.length ≤ 140737488355328 ∧ 0 < qF cd := hp _ rfl
  repeat' first
    | (refine Go.mk ?_; conv => whnf)
    | refine Need.go ?_ ?_
    | refine NilG.go (fun _ => ?_) (fun _ => ?_)
    | refine Br.dec (fun _ => ?_) (fun _ => ?_)
    | refine Br.go (fun _ => ?_) (fun _ => ?_)
    | refine draw_go hT hP mixed ?_
    | refine round_go hT hP ?_
  · exact ⟨rfl, hl, h0⟩
  · exact .mk [] [2, 3] _ rfl rfl rfl rfl rfl rfl rfl

theorem dN_nil (q : Nat) : dN [] q = [0, 0, 0, 0, 0, 0, 0, 0, 0, 0] := by
  rw [dN_if]
  have e : (([] : List Int).getD 0 0 % 256) = 0 := rfl
  rw [e, if_neg (by omega)]
  rfl

end Go.Proofs.Ythpijepbbpcjeaa
