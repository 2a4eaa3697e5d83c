/- From a contract to a call in a world of its own. -/
import Derived.Test.YtblnigjmcjpopaaFw28
namespace Go.Fw
open Go.RowKit
set_option linter.unusedVariables false
set_option linter.unusedSimpArgs false

def startE (W : World) : Env := { w := W, ρ := fun _ => none, S := fun g => g < W.heap.size, H := fun _ => none, U := fun _ => False }
theorem startE_ok (W : World) : HeapOk (startE W) := ⟨fun b x h => (by cases h), fun b b' x x' g h => (by cases h), fun g h => h⟩

theorem CSound.start {P : Program} {f : FuncId} {s : CSpec} (h : CSound P f s) {vs : Array Value} {args : List V1} {W : World} {p : Option Prop} {r : AV} {fresh : List Blk} (hv : VsR (startE W) args vs.toList)
    (hrun : s.run args [] = some (p, r, [], fresh)) (hp : ∀ q, p = some q → q) : Calls P f vs W fun e w' => (∃ v E', e = .returned v ∧ E'.w = w' ∧ AVR E' r v) ∧ Below W.heap.size W w' := by
  refine (h (startE W) vs args [] p r [] fresh (fun b => by simp [startE]) (fun b => by simp [startE]) (startE_ok W) hv hrun hp).mono ?_
  rintro e w' ⟨v, E', rfl, rfl, hb⟩
  refine ⟨⟨v, E', rfl, rfl, hb.val⟩, hb.fr.os, hb.fr.tape, hb.fr.output, hb.fr.size, fun k hk => hb.fr.old k hk ?_⟩
  rintro ⟨b, x, hx, _⟩
  cases hx

/-- a law that is true -/
theorem PSpec.law {P : Program} {f : FuncId} {s : PSpec} (h : Good P f s.spec) {vs : Array Value} {W : World} (xs : Args s.gs) (hv : VsR (startE W) (canonArgs s.gs xs) vs.toList) (hd : decArgs s.gs (canonArgs s.gs xs) = some xs)
    {p : Option Prop} (ht : s.out xs = (p, .cell (bv true), [])) (hp : ∀ q, p = some q → q) : Calls P f vs W fun e w' => e = .returned (.bool true) ∧ Below W.heap.size W w' := by
  have hrun : s.spec.run (canonArgs s.gs xs) [] = some (p, .cell (bv true), [], []) := by
    unfold PSpec.spec
    simp only [hd, ht]
  refine (h.1.start hv hrun hp).mono ?_
  rintro e w' ⟨⟨v, E', rfl, rfl, hr⟩, hb⟩
  refine ⟨?_, hb⟩
  obtain ⟨e, _⟩ := hr
  injection e with e
  rw [e]

theorem VsR.cons {E : Env} {x : V1} {xs : List V1} {v : Value} {vs : List Value} (h : V1R E x v) (hs : VsR E xs vs) : VsR E (x :: xs) (v :: vs) := ⟨v, vs, rfl, h, hs⟩
theorem VsR.nil {E : Env} : VsR E [] [] := rfl
theorem V1R.int {E : Env} (k : IntKind) (n : Int) : V1R E (.c (.imm (.int k n))) (.int k n) := ⟨rfl, rfl⟩
theorem V1R.bool {E : Env} (b : Bool) : V1R E (.c (.imm (.bool b))) (.bool b) := ⟨rfl, rfl⟩

end Go.Fw
