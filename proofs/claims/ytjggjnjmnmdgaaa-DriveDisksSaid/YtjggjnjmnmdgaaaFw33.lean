/- A contract by cases: one of two contracts for each argument. -/
import Derived.Test.YtjggjnjmnmdgaaaFw30
namespace Go.Fw
set_option linter.unusedVariables false
set_option linter.unusedSimpArgs false

theorem Good.cases {P : Program} {f : Nat} {gs : List Sig} {o o1 o2 : Args gs → Option Prop × AV × List Blk} (h1 : Good P f (PSpec.spec ⟨gs, o1⟩)) (h2 : Good P f (PSpec.spec ⟨gs, o2⟩))
    (h : ∀ xs, (∀ q, (o xs).1 = some q → q) → ((∀ q, (o1 xs).1 = some q → q) ∧ (o1 xs).2 = (o xs).2) ∨ ((∀ q, (o2 xs).1 = some q → q) ∧ (o2 xs).2 = (o xs).2)) : Good P f (PSpec.spec ⟨gs, o⟩) := by
  refine ⟨?_, h1.2⟩
  intro E0 vs args bl p r upd fresh hH hU hok hvs hrun hp
  unfold PSpec.spec at hrun
  simp only at hrun
  split at hrun
  · split at hrun
    · rename_i xs hxs
      simp only [Option.some.injEq, Prod.mk.injEq] at hrun
      obtain ⟨rfl, rfl, rfl, rfl⟩ := hrun
      have run : ∀ o' : Args gs → Option Prop × AV × List Blk, (o' xs).2 = (o xs).2 → (PSpec.spec ⟨gs, o'⟩).run args [] = some ((o' xs).1, (o xs).2.1, [], (o xs).2.2) := by
        intro o' he
        unfold PSpec.spec
        simp only [hxs, he]
      rcases h xs hp with ⟨hp', he⟩ | ⟨hp', he⟩
      · exact h1.1 E0 vs args [] _ _ _ _ hH hU hok hvs (run o1 he) hp'
      · exact h2.1 E0 vs args [] _ _ _ _ hH hU hok hvs (run o2 he) hp'
    · cases hrun
  · cases hrun

end Go.Fw
