/- What a contract says; calls. -/
import Derived.Test.YtblnigjmcjpopaaFw15
namespace Go.Fw
set_option linter.unusedVariables false
set_option linter.unusedSimpArgs false

section
variable {P : Program} {T : Tab}

def frameOf (E : Env) : Frame := { w0 := E.w, own0 := fun g => ∃ b x, E.H b = some x ∧ E.ρ b = some g, S0 := E.S }

theorem frameOf_ok {E : Env} : FrameOk (frameOf E) E :=
  ⟨rfl, rfl, rfl, Nat.le_refl _, fun _ _ _ => rfl, fun b x g hx hr => .inr ⟨b, x, hx, hr⟩, fun g hg => .inl hg⟩

/-- what holds when a call comes back -/
structure Back (E0 : Env) (m : Nat) (r : AV) (upd : List (Option Blk)) (fresh : List Blk) (v : Value) (E' : Env) : Prop where
  val : AVR E' r v
  ok : HeapOk E'
  H : ∀ b, E'.H b = if b < m then (upd[b]?).getD none else fresh[b - m]?
  U : ∀ b, E'.U b ↔ b < m + fresh.length
  ext : Ext E0 E'
  fr : FrameOk (frameOf E0) E'

/-- THE CONTRACT OF A FUNCTION -/
def CSound (P : Program) (f : FuncId) (s : CSpec) : Prop :=
  ∀ (E0 : Env) (vs : Array Value) (args : List V1) (bl : List Blk) (p : Option Prop) (r : AV) (upd : List (Option Blk)) (fresh : List Blk),
    (∀ b, E0.H b = bl[b]?) → (∀ b, E0.U b ↔ b < bl.length) → HeapOk E0 → VsR E0 args vs.toList → s.run args bl = some (p, r, upd, fresh) → (∀ q, p = some q → q) →
    Calls P f vs E0.w fun e w' => ∃ v E', e = .returned v ∧ E'.w = w' ∧ Back E0 bl.length r upd fresh v E'

def Enters (P : Program) (f : FuncId) : Prop := ∃ fn, P.funcs[f]? = some fn ∧ (fn.name == "runtime.NumGoroutine") = false ∧ fn.body.isSome = true

/-- the table of contracts holds -/
def SpecsOk (P : Program) (T : Tab) : Prop := ∀ f s, T.fn f = some s → CSound P f s ∧ Enters P f

theorem AVR.dead_ok {E : Env} {v : Value} : AVR E .dead v := trivial

theorem shape_rn (f : Nat → Nat) (b : Blk) : shape (b.rn f) = shape b := by
  cases b with
  | arr _ _ => rfl
  | var cs =>
    simp only [Blk.rn, shape, List.map_map]
    congr 1
    apply List.map_congr_left
    intro c _
    cases c <;> rfl
  | mp _ _ _ _ => rfl

/-- the same under other names -/
theorem CellR.rn {E E' : Env} {f : Nat → Nat} (hw : E'.w = E.w) :
    {c : Cell} → {vs : List Value} → ((∀ g, E.S g → E'.S g) ∨ c.isRo = false) → (∀ i ∈ c.names, E.U i → E'.U (f i) ∧ ∀ x, E'.H (f i) = some x → ∃ x', E.H i = some x' ∧ shape x = shape x' ∧ E'.ρ (f i) = E.ρ i) → CellR E c vs → CellR E' (c.rn f) vs
  | .imm _, _, _, _, hc => hc
  | .run _ _ _, _, _, _, hc => hc
  | .ro t l, _, hS0, _, ⟨v, e, hs⟩ => have hS := hS0.resolve_right (by simp [Cell.isRo]); ⟨v, e, hs.mono (fun g hg => ⟨hS g hg, by rw [hw]⟩) fun _ _ hx => hx.mono fun g hg => ⟨hS g hg, by rw [hw]⟩⟩
  | .rptr t l i j, _, hS0, _, ⟨hi, ad, us, e, hs, hl, hc⟩ => have hS := hS0.resolve_right (by simp [Cell.isRo]); ⟨hi, ad, us, e, hS _ hs, hl.mono fun _ _ hx => hx.mono fun g hg => ⟨hS g hg, by rw [hw]⟩, fun k u hu => by rw [hw]; exact hc k u hu⟩
  | .own b, _, _, h0, ⟨v, e, hu, hh⟩ => by
    have h := h0 b (by simp [Cell.names])
    refine ⟨v, e, (h hu).1, fun t l hb => ?_⟩
    obtain ⟨x', hx, hsh, hr⟩ := (h hu).2 _ hb
    obtain ⟨l', rfl, hl⟩ := shape_arr hsh
    rcases hh t l' hx with ⟨h1, h2⟩ | ⟨g, cs, el, cap, h1, h2, h3, h4, h5⟩
    · exact .inl ⟨hr.trans h1, h2⟩
    · exact .inr ⟨g, cs, el, cap, hr.trans h1, by rw [hw]; exact h2, by rw [h3, hl], by omega, h5⟩
  | .sub b off len, _, _, h0, ⟨v, e, hu, hh⟩ => by
    have h := h0 b (by simp [Cell.names])
    refine ⟨v, e, (h hu).1, fun t l hb => ?_⟩
    obtain ⟨x', hx, hsh, hr⟩ := (h hu).2 _ hb
    obtain ⟨l', rfl, hl⟩ := shape_arr hsh
    obtain ⟨h0, h1⟩ := hh t l' hx
    refine ⟨by omega, ?_⟩
    rcases h1 with ⟨h1, h2, h3⟩ | ⟨g, ad, cap, h1, h2⟩
    · exact .inl ⟨hr.trans h1, h2, h3⟩
    · exact .inr ⟨g, ad, cap, hr.trans h1, h2⟩
  | .srun b j, _, _, h0, ⟨v, e, hu, hh⟩ => by
    have h := h0 b (by simp [Cell.names])
    refine ⟨v, e, (h hu).1, fun cs c hb hi => ?_⟩
    obtain ⟨x', hx, hsh, hr⟩ := (h hu).2 _ hb
    obtain ⟨cs', rfl, hm⟩ := shape_var hsh
    obtain ⟨c', hc', hs'⟩ := itemAt_size hm hi
    obtain ⟨g, cap, h1, h2, h3⟩ := hh cs' c' hx hc'
    exact ⟨g, cap, hr.trans h1, by rw [h2, hs'], by omega⟩
  | .svar b j n, _, _, h0, ⟨v, e, hu, hh⟩ => by
    have h := h0 b (by simp [Cell.names])
    refine ⟨v, e, (h hu).1, fun cs hb => ?_⟩
    obtain ⟨x', hx, hsh, hr⟩ := (h hu).2 _ hb
    obtain ⟨cs', rfl, hm⟩ := shape_var hsh
    obtain ⟨g, cap, h1, h2, h3⟩ := hh cs' hx
    exact ⟨g, cap, hr.trans h1, h2, h3⟩
  | .ptr b j, _, _, h0, ⟨v, e, hu, hh⟩ => by
    have h := h0 b (by simp [Cell.names])
    refine ⟨v, e, (h hu).1, fun cs hb => ?_⟩
    obtain ⟨x', hx, hsh, hr⟩ := (h hu).2 _ hb
    obtain ⟨cs', rfl, hm⟩ := shape_var hsh
    obtain ⟨g, h1, h2⟩ := hh cs' hx
    exact ⟨g, hr.trans h1, h2⟩
  | .pel b i j, _, _, h0, ⟨v, e, hu, hh⟩ => by
    have h := h0 b (by simp [Cell.names])
    refine ⟨v, e, (h hu).1, fun t l hb hi => ?_⟩
    obtain ⟨x', hx, hsh, hr⟩ := (h hu).2 _ hb
    obtain ⟨l', rfl, hl⟩ := shape_arr hsh
    obtain ⟨g, h1, h2⟩ := hh t l' hx (by omega)
    exact ⟨g, hr.trans h1, h2⟩
  | .pidx b j i, _, _, h0, ⟨v, e, hu, hh⟩ => by
    have h := h0 b (by simp [Cell.names])
    refine ⟨v, e, (h hu).1, fun cs hb => ?_⟩
    obtain ⟨x', hx, hsh, hr⟩ := (h hu).2 _ hb
    obtain ⟨cs', rfl, hm⟩ := shape_var hsh
    obtain ⟨g, h1, h2⟩ := hh cs' hx
    exact ⟨g, hr.trans h1, h2⟩
  | .fn g bs, _, _, h0, ⟨caps, e, hs, hh⟩ => by
    refine ⟨caps, e, by simpa using hs, fun i b hb => ?_⟩
    rw [List.getElem?_map] at hb
    cases hbi : bs[i]? with
    | none => rw [hbi] at hb; cases hb
    | some b0 =>
      rw [hbi] at hb
      injection hb with hb
      subst hb
      obtain ⟨u, hu1, hu2, h1, h2⟩ := hh i b0 hbi
      have h := h0 b0 (by simp only [Cell.names]; exact List.mem_of_getElem? hbi)
      refine ⟨u, hu1, hu2, (h h1).1, fun cs hx' => ?_⟩
      obtain ⟨x', hx, hsh, hr⟩ := (h h1).2 _ hx'
      obtain ⟨cs', rfl, hm⟩ := shape_var hsh
      obtain ⟨g, h3, h4⟩ := h2 cs' hx
      exact ⟨g, hr.trans h3, h4⟩
  | .ifc t b, _, _, h0, ⟨v, e, hu, hh⟩ => by
    have h := h0 b (by simp [Cell.names])
    refine ⟨v, e, (h hu).1, fun cs hb => ?_⟩
    obtain ⟨x', hx, hsh, hr⟩ := (h hu).2 _ hb
    obtain ⟨cs', rfl, hm⟩ := shape_var hsh
    obtain ⟨g, h1, h2⟩ := hh cs' hx
    exact ⟨g, hr.trans h1, h2⟩
  | .map b, _, _, h0, ⟨v, e, hu, hh⟩ => by
    have h := h0 b (by simp [Cell.names])
    refine ⟨v, e, (h hu).1, fun ka kt vt l hb => ?_⟩
    obtain ⟨x', hx, hsh, hr⟩ := (h hu).2 _ hb
    obtain ⟨l', rfl⟩ := shape_mp hsh
    obtain ⟨g, h1, h2⟩ := hh ka kt vt l' hx
    exact ⟨g, hr.trans h1, h2⟩

/-- the two environments agree on a name and its new one -/
def RnAt (E E' : Env) (f : Nat → Nat) (i : Nat) : Prop :=
  E.U i → E'.U (f i) ∧ ∀ x, E'.H (f i) = some x → ∃ x', E.H i = some x' ∧ shape x = shape x' ∧ E'.ρ (f i) = E.ρ i

theorem IR.rn {E E' : Env} {f : Nat → Nat} (hw : E'.w = E.w) : ∀ {cs : List Cell} {vs : List Value}, ((∀ g, E.S g → E'.S g) ∨ cs.any Cell.isRo = false) → (∀ i ∈ cs.flatMap (·.names), RnAt E E' f i) → IR E cs vs → IR E' (cs.map (·.rn f)) vs
  | [], _, _, _, hc => hc
  | c :: cs, _, hS, h, ⟨r, s, e, h1, h2⟩ => ⟨r, s, e, h1.rn hw (hS.imp id fun e => by simp at e; exact e.1) (fun i hi => h i (by simp [hi])), h2.rn hw (hS.imp id fun e => by simp at e ⊢; exact e.2) (fun i hi => h i (by simp at hi ⊢; exact .inr hi))⟩
theorem V1R.rn {E E' : Env} {f : Nat → Nat} (hw : E'.w = E.w) : {x : V1} → {v : Value} → ((∀ g, E.S g → E'.S g) ∨ x.hasRo = false) → (∀ i ∈ x.names, RnAt E E' f i) → V1R E x v → V1R E' (x.rn f) v
  | .c _, _, hS, h, hc => CellR.rn hw hS h hc
  | .agg _, _, hS, h, ⟨vals, e, hc⟩ => ⟨vals, e, hc.rn hw hS h⟩
theorem VsR.rn {E E' : Env} {f : Nat → Nat} (hw : E'.w = E.w) : ∀ {xs : List V1} {vs : List Value}, ((∀ g, E.S g → E'.S g) ∨ xs.any (·.hasRo) = false) → (∀ i ∈ xs.flatMap (·.names), RnAt E E' f i) → VsR E xs vs → VsR E' (xs.map (·.rn f)) vs
  | [], _, _, _, hc => hc
  | _ :: _, _, hS, h, ⟨v, r, e, h1, h2⟩ => ⟨v, r, e, h1.rn hw (hS.imp id fun e => by simp at e; exact e.1) (fun i hi => h i (by simp [hi])), h2.rn hw (hS.imp id fun e => by simp at e ⊢; exact e.2) (fun i hi => h i (by simp at hi ⊢; exact .inr hi))⟩
def AV.names : AV → List Nat
  | .dead => []
  | .one v => v.names
  | .tup l => l.flatMap (·.names)
theorem AVR.rn {E E' : Env} {f : Nat → Nat} (hw : E'.w = E.w) : {x : AV} → {v : Value} → ((∀ g, E.S g → E'.S g) ∨ x.hasRo = false) → (∀ i ∈ x.names, RnAt E E' f i) → AVR E x v → AVR E' (x.rn f) v
  | .dead, _, _, _, _ => trivial
  | .one _, _, hS, h, hc => V1R.rn hw hS h hc
  | .tup _, _, hS, h, ⟨vs, e, hc⟩ => ⟨vs, e, hc.rn hw hS h⟩

/-- a block under its new name -/
theorem BlkR.rn {E E' : Env} {f : Nat → Nat} {i : Nat} {x : Blk} (hw : E'.w = E.w) (hS : (∀ g, E.S g → E'.S g) ∨ x.plain = true) (h : ∀ j ∈ x.names, RnAt E E' f j) (hr : E'.ρ (f i) = E.ρ i) (hb : BlkR E i x) : BlkR E' (f i) (x.rn f) := by
  cases x with
  | arr t l =>
    rcases hb with ⟨h1, h2⟩ | ⟨g, cs, el, us, spare, h1, h2, h3, h4⟩
    · exact .inl ⟨hr.trans h1, h2⟩
    · refine .inr ⟨g, cs, el, us, spare, hr.trans h1, by rw [hw]; exact h2, h3, h4.mono fun _ _ hx => ?_⟩
      rcases hS with hS | hS
      · exact hx.mono fun g hg => ⟨hS g hg, by rw [hw]⟩
      · exact hx.flat hS
  | var is =>
    obtain ⟨g, cs, el, h1, h2, h3⟩ := hb
    exact ⟨g, cs, el, hr.trans h1, by rw [hw]; exact h2, h3.rn hw (hS.imp id fun e => by simp [Blk.plain] at e ⊢; exact e) h⟩
  | mp ka kt vt l =>
    obtain ⟨g, es, c, h1, h2, h3⟩ := hb
    exact ⟨g, es, c, hr.trans h1, by rw [hw]; exact h2, h3⟩

theorem VsR.len {E : Env} : ∀ {xs : List V1} {vs : List Value}, VsR E xs vs → vs.length = xs.length
  | [], _, h => by simp only [VsR] at h; subst h; rfl
  | _ :: _, _, ⟨_, _, e, _, h⟩ => by subst e; simp [h.len]

end
end Go.Fw
