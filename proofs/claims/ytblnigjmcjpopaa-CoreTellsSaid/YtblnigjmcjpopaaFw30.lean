/- Contracts of functions that write into what they are handed. -/
import Derived.Test.YtblnigjmcjpopaaFw29
namespace Go.Fw
set_option linter.unusedVariables false
set_option linter.unusedSimpArgs false

structure WSpec where
  X : Type
  args : X → List V1
  bl : X → List Blk
  rd : List V1 → List Blk → Option X
  out : X → Option Prop × AV × List (Option Blk) × List Blk

def WSpec.spec (s : WSpec) : CSpec := { wr := true, run := fun args bl => match s.rd args bl with
  | some x => some (s.out x)
  | none => none }

theorem WSpec.good {P : Program} {T : Tab} {f : FuncId} {fn : Func} (hT : TabOk P T) (hP : SpecsOk P T) (hf : P.funcs[f]? = some fn) (hn : (fn.name == "runtime.NumGoroutine") = false) (s : WSpec) (hb : fn.body.isSome = true)
    (hrd : ∀ a b x, s.rd a b = some x → a = s.args x ∧ b = s.bl x)
    (h : ∀ x, (∀ q, (s.out x).1 = some q → q) → Go (startR P T fn (s.args x) (s.bl x) (s.out x).2.1 (s.out x).2.2.1 (s.out x).2.2.2)) : Good P f s.spec := by
  refine ⟨?_, fn, hf, hn, hb⟩
  obtain ⟨c, hc⟩ := Option.isSome_iff_exists.1 hb
  refine fn_sound hT hf hc _ fun args bl p r upd fresh hrun hp => ?_
  unfold WSpec.spec at hrun
  simp only at hrun
  split at hrun
  · rename_i x hx
    obtain ⟨rfl, rfl⟩ := hrd _ _ _ hx
    injection hrun with hrun
    have h1 := (h x (by rw [hrun]; exact hp)).out
    rw [hrun, startR_eq] at h1
    refine ⟨_, fun E vs _ _ hv => hv, ?_⟩
    unfold startC at h1
    rw [hc] at h1
    simp only [fV1s_eq, fBlks_eq, fSt_eq] at h1
    exact ex_sound hT hP c h1
  · cases hrun

end Go.Fw
