/- More weakening: a nil slice taken for data; loops that count upwards. -/
import Derived.Test.YtblnigjmcjpopaaFw33
namespace Go.Fw
set_option linter.unusedVariables false
set_option linter.unusedSimpArgs false

theorem CellR.nil_ro {E : Env} (t : Ty) {vs : List Value} (h : CellR E (.imm (.slice none 0 0)) vs) : CellR E (.ro t []) vs := by
  obtain ⟨e, _⟩ := h
  exact ⟨_, e, none, 0, rfl, Nat.le_refl _, fun hne => absurd rfl hne⟩

/-- a nil slice in a slot, taken for data -/
theorem Le.nilro {m : Nat} {st : St} (i : Nat) (t : Ty) (h : st.tmps[i]? = some (.imm (.slice none 0 0))) : Le m st { tmps := st.tmps.set i (.cell (.ro t [])), heap := st.heap } := by
  intro E0 E a hm hs hf
  refine ⟨E, rfl, ⟨hs.defers, ?_, fun j y hy => ?_, hs.ok, hs.H, hs.U⟩, hf⟩
  · simpa using hs.len
  · have hy : (st.tmps.set i (.cell (.ro t [])))[j]? = some y := hy
    rw [List.getElem?_set] at hy
    by_cases e : i = j
    · subst e
      obtain ⟨v, h1, h2⟩ := hs.tmp i _ h
      rw [if_pos rfl, if_pos (List.getElem?_eq_some_iff.1 h).1] at hy
      injection hy with hy
      subst hy
      exact ⟨v, h1, CellR.nil_ro t h2⟩
    · rw [if_neg e] at hy
      exact hs.tmp j y hy

/-- cells that say the same, or a nil slice taken for data -/
def cellN (c d : Cell) : Prop := c = d ∨ (c = .imm (.slice none 0 0) ∧ ∃ t, d = .ro t [])
def cellsN : List Cell → List Cell → Prop
  | [], [] => True
  | c :: cs, d :: ds => cellN c d ∧ cellsN cs ds
  | _, _ => False
theorem cellsN_size : ∀ {cs ds : List Cell}, cellsN cs ds → ds.map Cell.size = cs.map Cell.size
  | [], [], _ => rfl
  | c :: cs, d :: ds, ⟨h1, h2⟩ => by
    simp only [List.map_cons, cellsN_size h2]
    rcases h1 with rfl | ⟨rfl, t, rfl⟩ <;> rfl
  | [], _ :: _, h => h.elim
  | _ :: _, [], h => h.elim
theorem cellsN_rel {E : Env} : ∀ {cs ds : List Cell} {vs : List Value}, cellsN cs ds → IR E cs vs → IR E ds vs
  | [], [], _, _, h => h
  | c :: cs, d :: ds, _, ⟨h1, h2⟩, ⟨r, s, e, g1, g2⟩ => by
    refine ⟨r, s, e, ?_, cellsN_rel h2 g2⟩
    rcases h1 with rfl | ⟨rfl, t, rfl⟩
    · exact g1
    · exact CellR.nil_ro t g1
  | [], _ :: _, _, h, _ => h.elim
  | _ :: _, [], _, h, _ => h.elim
theorem setAt_same {α : Type} : ∀ (l : List (Option Blk)) (b : Nat) (o : Option Blk) (j : Nat), b < l.length → (setAt l b o)[j]? = if j = b then some o else l[j]?
  | _ :: r, 0, o, j, _ => by cases j <;> simp [setAt]
  | x :: r, b + 1, o, j, h => by
    cases j with
    | zero => simp [setAt]
    | succ j =>
      have := setAt_same (α := α) r b o j (by simpa using h)
      simpa [setAt] using this
theorem setAt_len : ∀ (l : List (Option Blk)) (b : Nat) (o : Option Blk), b < l.length → (setAt l b o).length = l.length
  | _ :: r, 0, o, _ => by simp [setAt]
  | x :: r, b + 1, o, h => by simpa [setAt] using setAt_len r b o (by simpa using h)

/-- nil slices in a variable, taken for data -/
theorem Le.nilroH {m : Nat} {st : St} (b : Nat) (cs ds : List Cell) (h : st.heap[b]? = some (some (.var cs))) (hn : cellsN cs ds) : Le m st { tmps := st.tmps, heap := setAt st.heap b (some (.var ds)) } := by
  intro E0 E a hm hs hf
  have hlt : b < st.heap.length := (List.getElem?_eq_some_iff.1 h).1
  have hlook : st.look b = some (.var cs) := by unfold St.look; rw [h]
  have hb : E.H b = some (.var cs) := (hs.H b).trans hlook
  obtain ⟨hu, ⟨g, ca, el, hr, hw, hir⟩, hS⟩ := hs.ok.blk b _ hb
  have hsh : shape (.var ds) = shape (.var cs) := by simp only [shape]; rw [cellsN_size hn]
  have hwr : Writes E g ca ca el E.w :=
     ⟨hw, hw, rfl, fun _ _ => rfl, rfl, rfl, rfl, rfl⟩
  refine ⟨setE E b (.var ds) E.w, rfl, ⟨hs.defers, hs.len, fun j y hy => ?_, setE_ok hs.ok hb hr hsh hwr (cellsN_rel hn hir), fun x => ?_, fun x hx => ?_⟩, ?_⟩
  · obtain ⟨v, h1, h2⟩ := hs.tmp j y hy
    exact ⟨v, h1, h2.ext (setE_ext hs.ok hb hr hsh hwr)⟩
  · show (if x = b then some (.var ds) else E.H x) = St.look { tmps := st.tmps, heap := setAt st.heap b (some (.var ds)) } x
    unfold St.look
    rw [setAt_same (α := Nat) _ _ _ _ hlt]
    split
    · rfl
    · exact hs.H x
  · have := hs.U x hx
    simpa [setAt_len _ _ _ hlt] using this
  · exact ⟨setE_fr hs.ok hb hr hwr hf.fr, hf.ext.trans (setE_ext hs.ok hb hr hsh hwr)⟩

section
variable {P : Program} {T : Tab}
/-- a loop that counts upwards to n -/
theorem up_go (hT : TabOk P T) (hP : SpecsOk P T) {A : Type} {m : Nat} {c : Code} {st : St} {K : Cont} (n : Nat) (S : Int → A → St) (I : Nat → A → Prop) (a0 : A) (h0 : Le m st (S 0 a0)) (hI : I 0 a0)
    (h : ∀ (k : Nat) a, k ≤ n → I k a → Go (fState (S (k : Int) a) fun st => exR P T m c st fun e st' => match e with | .normal => ∃ i' a', (k < n ∧ i' = ((k + 1 : Nat) : Int) ∧ I (k + 1) a') ∧ Le m st' (S i' a') | e => K e st')) : LoopG P m c st K := by
  refine loop_rule (X := Nat × A) (fun x => S (x.1 : Int) x.2) (fun x => x.1 ≤ n ∧ I x.1 x.2) (fun x => n - x.1) (0, a0) h0 ⟨Nat.zero_le _, hI⟩ fun x hx => ?_
  refine Does.mono (does_go hT hP (h x.1 x.2 hx.1 hx.2)) fun e st' hk => ?_
  cases e with
  | normal =>
    obtain ⟨i', a', ⟨hlt, e, hi⟩, hle⟩ := hk
    subst e
    exact ⟨(x.1 + 1, a'), ⟨hlt, hi⟩, by show n - (x.1 + 1) < n - x.1; omega, hle⟩
  | _ => exact hk
end
end Go.Fw
