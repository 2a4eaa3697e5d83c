/- A contract by cases: one of two contracts for each argument. -/
import Derived.Test.YtblnigjmcjpopaaFw30
namespace Go.Fw
set_option linter.unusedVariables false
set_option linter.unusedSimpArgs false

theorem Good.cases {P : Program} {f : Nat} {gs : List Sig} {o o1 o2 : Args gs → Option Prop × AV × List Blk} (h1 : Good P f (PSpec.spec ⟨gs, o1⟩)) (h2 : Good P f (PSpec.spec ⟨gs, o2⟩))
    (h : ∀ xs, (∀ q, (o xs).1 = some q → q) → ((∀ q, (o1 xs).1 = some q → q) ∧ (o1 xs).2 = (o xs).2) ∨ ((∀ q, (o2 xs).1 = some q → q) ∧ (o2 xs).2 = (o xs).2)) : Good P f (PSpec.spec ⟨gs, o⟩) := by
  refine ⟨?_, h1.2⟩
  intro E0 vs args bl p r upd fresh hH hU hok hvs hrun hp
  unfold PSpec.spec at hrun
  simp only at hrun
  split at hrun
  · split at hrun
    · rename_i xs hxs
      simp only [Option.some.injEq, Prod.mk.injEq] at hrun
      obtain ⟨rfl, rfl, rfl, rfl⟩ := hrun
      have run : ∀ o' : Args gs → Option Prop × AV × List Blk, (o' xs).2 = (o xs).2 → (PSpec.spec ⟨gs, o'⟩).run args [] = some ((o' xs).1, (o xs).2.1, [], (o xs).2.2) := by
        intro o' he
        unfold PSpec.spec
        simp only [hxs, he]
      rcases h xs hp with ⟨hp', he⟩ | ⟨hp', he⟩
      · exact h1.1 E0 vs args [] _ _ _ _ hH hU hok hvs (run o1 he) hp'
      · exact h2.1 E0 vs args [] _ _ _ _ hH hU hok hvs (run o2 he) hp'
    · cases hrun
  · cases hrun

/-- the same contract with a result that says less -/
theorem Good.map {P : Program} {f : Nat} {gs : List Sig} {o o' : Args gs → Option Prop × AV × List Blk} (h1 : Good P f (PSpec.spec ⟨gs, o⟩))
    (h : ∀ xs, (∀ q, (o' xs).1 = some q → q) → (∀ q, (o xs).1 = some q → q) ∧ (o xs).2.2 = (o' xs).2.2 ∧ ∀ E v, AVR E (o xs).2.1 v → AVR E (o' xs).2.1 v) : Good P f (PSpec.spec ⟨gs, o'⟩) := by
  refine ⟨?_, h1.2⟩
  intro E0 vs args bl p r upd fresh hH hU hok hvs hrun hp
  unfold PSpec.spec at hrun
  simp only at hrun
  split at hrun
  · split at hrun
    · rename_i xs hxs
      simp only [Option.some.injEq, Prod.mk.injEq] at hrun
      obtain ⟨rfl, rfl, rfl, rfl⟩ := hrun
      obtain ⟨k1, k2, k3⟩ := h xs hp
      have run : (PSpec.spec ⟨gs, o⟩).run args [] = some ((o xs).1, (o xs).2.1, [], (o' xs).2.2) := by
        unfold PSpec.spec
        simp only [hxs, k2]
      refine (h1.1 E0 vs args [] _ _ _ _ hH hU hok hvs run k1).mono ?_
      rintro e w' ⟨v, E', he, hw, hb⟩
      exact ⟨v, E', he, hw, k3 E' v hb.val, hb.ok, hb.H, hb.U, hb.ext, hb.fr⟩
    · cases hrun
  · cases hrun

/-- a nil slice of a result, taken for one of one's own -/
theorem Good.nil {P : Program} {f : Nat} {gs : List Sig} {o o' : Args gs → Option Prop × AV × List Blk} (t : Ty) (h1 : Good P f (PSpec.spec ⟨gs, o⟩))
    (h : ∀ xs, (∀ q, (o' xs).1 = some q → q) → (∀ q, (o xs).1 = some q → q) ∧ noA (o xs).2.2.length (o xs).2.1 = some (o' xs).2.1 ∧ (o xs).2.2 ++ [.arr t []] = (o' xs).2.2) : Good P f (PSpec.spec ⟨gs, o'⟩) := by
  refine ⟨?_, h1.2⟩
  intro E0 vs args bl p r upd fresh hH hU hok hvs hrun hp
  unfold PSpec.spec at hrun
  simp only at hrun
  split at hrun
  · split at hrun
    · rename_i xs hxs
      simp only [Option.some.injEq, Prod.mk.injEq] at hrun
      obtain ⟨rfl, rfl, rfl, rfl⟩ := hrun
      obtain ⟨k1, k2, k3⟩ := h xs hp
      have run : (PSpec.spec ⟨gs, o⟩).run args [] = some ((o xs).1, (o xs).2.1, [], (o xs).2.2) := by
        unfold PSpec.spec
        simp only [hxs]
      refine (h1.1 E0 vs args [] _ _ _ _ hH hU hok hvs run k1).mono ?_
      rintro e w' ⟨v, E', he, hw, hb⟩
      have := Back.nil hb t (r := (o' xs).2.1) (by simpa using k2)
      rw [k3] at this
      exact ⟨v, nilE E' [] _ t, he, hw, this⟩
    · cases hrun
  · cases hrun

/-- for each argument one of several contracts -/
theorem Good.sel {P : Program} {f : Nat} {s0 : CSpec} {gs : List Sig} {o : Args gs → Option Prop × AV × List Blk} (h0 : Good P f s0)
    (h : ∀ xs, (∀ q, (o xs).1 = some q → q) → ∃ o1 : Args gs → Option Prop × AV × List Blk, Good P f (PSpec.spec ⟨gs, o1⟩) ∧ (∀ q, (o1 xs).1 = some q → q) ∧ (o1 xs).2 = (o xs).2) : Good P f (PSpec.spec ⟨gs, o⟩) := by
  refine ⟨?_, h0.2⟩
  intro E0 vs args bl p r upd fresh hH hU hok hvs hrun hp
  unfold PSpec.spec at hrun
  simp only at hrun
  split at hrun
  · split at hrun
    · rename_i xs hxs
      simp only [Option.some.injEq, Prod.mk.injEq] at hrun
      obtain ⟨rfl, rfl, rfl, rfl⟩ := hrun
      obtain ⟨o1, g1, k1, k2⟩ := h xs hp
      have run : (PSpec.spec ⟨gs, o1⟩).run args [] = some ((o1 xs).1, (o xs).2.1, [], (o xs).2.2) := by
        unfold PSpec.spec
        simp only [hxs, k2]
      exact g1.1 E0 vs args [] _ _ _ _ hH hU hok hvs run k1
    · cases hrun
  · cases hrun

/-- a nil slice in the second field, taken for data -/
theorem AVR.nil_ro {E : Env} {a : Cell} {t : Ty} {v : Value} (h : AVR E (.agg [a, .imm (.slice none 0 0)]) v) : AVR E (.agg [a, .ro t []]) v := by
  obtain ⟨vals, e, r, s, e1, h1, r2, s2, e2, h2, h3⟩ := h
  refine ⟨vals, e, r, s, e1, h1, r2, s2, e2, ?_, h3⟩
  obtain ⟨e3, _⟩ := h2
  exact ⟨_, e3, none, 0, rfl, Nat.le_refl _, fun hne => absurd rfl hne⟩

end Go.Fw
