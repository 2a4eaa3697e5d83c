/- What all chips share: their result, the choice of a register. -/
import Derived.Test.YthpijepbbpcjeaaChip
namespace Go.Proofs.Ythpijepbbpcjeaa
open Go.Fw
set_option linter.unusedVariables false
set_option linter.unusedSimpArgs false
set_option maxRecDepth 100000

abbrev devR : AV := .agg [.own 0, .imm (.slice none 0 0)]
def pickF (l : List Int) (a : Int) : Int := if a < 0 then 0 else if a ≥ l.length then 0 else l.getD a.toNat 0
def pickS : WSpec := ⟨List Int × Int, fun x => [.c (.own 0), .c (.ptr 1 0)], fun x => [.arr (.int .i64) x.1, .var [iv .i64 x.2]], fun a b => (match a, b with | [.c (.own 0), .c (.ptr 1 0)], [.arr (.int .i64) l, .var [.imm (.int .i64 n)]] => some (l, n) | _, _ => none),
  fun x => (none, I (pickF x.1 x.2), [some (.arr (.int .i64) x.1), some (.var [iv .i64 x.2])], [])⟩
theorem pick_ok : Good Try.prog 92 pickS.spec := by
  have hT := tab_ok (fs := []) tree_ok
  have hP : SpecsOk Try.prog (tab tree []) := specs_nil
  refine pickS.good (fn := Try.f92) hT hP Try.func92 (by kernel_rfl) rfl ?_ fun ((l, a) : List Int × Int) _ => ?_
  · intro a b x h
    simp only [pickS] at h
    split at h
    · injection h with h; subst h; exact ⟨rfl, rfl⟩
    · cases h
  repeat' first
    | (refine Go.mk ?_; conv => whnf)
    | refine Need.go ?_ ?_
    | refine NilG.go (fun _ => ?_) (fun _ => ?_)
    | refine Br.dec (fun _ => ?_) (fun _ => ?_)
    | refine Br.go (fun _ => ?_) (fun _ => ?_)
    | refine draw_go hT hP mixed ?_
    | refine round_go hT hP ?_
  · rename_i h
    refine .mk [] [0, 1] _ rfl rfl rfl rfl rfl rfl (imm_int ?_)
    show 0 = pickF l a
    rw [pickF, if_pos h]
  · rename_i h h2
    refine .mk [] [0, 1] _ rfl rfl rfl rfl rfl rfl (imm_int ?_)
    show 0 = pickF l a
    rw [pickF, if_neg h, if_pos h2]
  · dsimp only at *
    omega
  · dsimp only at *
    omega
  · rename_i h h2
    refine .mk [] [0, 1] _ rfl rfl rfl rfl rfl rfl (imm_int ?_)
    show _ = pickF l a
    rw [pickF, if_neg h, if_neg h2]; rfl

theorem pick_no {l : List Int} {a : Int} (h : ∀ i : Nat, i < l.length → ¬ a = i) : pickF l a = 0 := by
  unfold pickF
  split
  · rfl
  · split
    · rfl
    · rename_i h1 h2
      exact absurd (by omega : a = (a.toNat : Int)) (h a.toNat (by omega))

end Go.Proofs.Ythpijepbbpcjeaa
