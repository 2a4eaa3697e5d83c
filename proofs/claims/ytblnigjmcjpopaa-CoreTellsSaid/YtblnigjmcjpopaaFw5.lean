/- How the abstract heap and the world go on together. -/
import Derived.Test.YtblnigjmcjpopaaFw4
namespace Go.Fw
set_option linter.unusedVariables false
set_option linter.unusedSimpArgs false

theorem setF_kill (us : List Nat) : ∀ (H : Nat → Option Blk) (b : Nat), setF H (us.map fun u => (u, none)) b = if b ∈ us then none else H b := by
  induction us with
  | nil => intro H b; rfl
  | cons u us ih =>
    intro H b
    simp only [List.map_cons, setF, ih]
    by_cases h : b = u
    · subst h; simp
    · simp [h]

theorem setF_append (a c : List (Nat × Option Blk)) : ∀ (H : Nat → Option Blk), setF H (a ++ c) = setF (setF H a) c := by
  induction a with
  | nil => intro H; rfl
  | cons x a ih => intro H; obtain ⟨b, o⟩ := x; simp only [List.cons_append, setF]; exact ih _

def killE (E : Env) (us : List Nat) : Env := { E with S := SU E us, H := fun b => if b ∈ us then none else E.H b }

theorem killE_ext {E : Env} (us : List Nat) : Ext E (killE E us) := by
  refine ⟨fun g hg => ⟨.inl hg, rfl⟩, fun _ h => h, fun b x' _ hx => ?_⟩
  by_cases hb : b ∈ us
  · simp [killE, hb] at hx
  · simp only [killE, hb, if_false] at hx
    exact ⟨x', hx, rfl, rfl, fun g cs el _ h => ⟨cs, h, rfl⟩⟩

theorem live_lt {E : Env} (hH : HeapOk E) {b g : Nat} {x : Blk} (hx : E.H b = some x) (hr : E.ρ b = some g) : g < E.w.heap.size ∧ ∃ o, E.w.heap[g]? = some o := by
  have key : ∃ o, E.w.heap[g]? = some o := by
    obtain ⟨_, hb, _⟩ := hH.blk b x hx
    cases x with
    | arr t l =>
      rcases hb with ⟨h, _⟩ | ⟨g', cs, el, us, spare, h1, h2, _⟩
      · rw [hr] at h; cases h
      · rw [hr] at h1; injection h1 with h1; subst h1; exact ⟨_, h2⟩
    | var is =>
      obtain ⟨g', cs, el, h1, h2, _⟩ := hb
      rw [hr] at h1; injection h1 with h1; subst h1; exact ⟨_, h2⟩
    | mp ka kt vt l =>
      obtain ⟨g', es, c, h1, h2, _⟩ := hb
      rw [hr] at h1; injection h1 with h1; subst h1; exact ⟨_, h2⟩
  obtain ⟨o, h⟩ := key
  exact ⟨(Array.getElem?_eq_some_iff.1 h).1, o, h⟩

theorem BlkR.ext {E E' : Env} (h : Ext E E') {b : Nat} {x : Blk} (hr : E'.ρ b = E.ρ b) (hw : ∀ g, E.ρ b = some g → E'.w.heap[g]? = E.w.heap[g]?) (hb : BlkR E b x) : BlkR E' b x := by
  cases x with
  | arr t l =>
    rcases hb with ⟨h1, h2⟩ | ⟨g, cs, el, us, spare, h1, h2, h3, h4⟩
    · exact .inl ⟨hr.trans h1, h2⟩
    · exact .inr ⟨g, cs, el, us, spare, hr.trans h1, (hw g h1).trans h2, h3, h4.mono fun _ _ hx => hx.mono h.S⟩
  | var is =>
    obtain ⟨g, cs, el, h1, h2, h3⟩ := hb
    exact ⟨g, cs, el, hr.trans h1, (hw g h1).trans h2, h3.ext h⟩
  | mp ka kt vt l =>
    obtain ⟨g, es, c, h1, h2, h3⟩ := hb
    exact ⟨g, es, c, hr.trans h1, (hw g h1).trans h2, h3⟩

theorem killE_ok {E : Env} (hH : HeapOk E) (us : List Nat) : HeapOk (killE E us) := by
  have hx' : ∀ b x, (killE E us).H b = some x → b ∉ us ∧ E.H b = some x := by
    intro b x hx
    by_cases hb : b ∈ us
    · simp [killE, hb] at hx
    · exact ⟨hb, by simpa [killE, hb] using hx⟩
  refine ⟨fun b x hx => ?_, fun b b' x x' g hx hx'' hr hr' => ?_, fun g hg => ?_⟩
  · obtain ⟨hn, hx⟩ := hx' b x hx
    obtain ⟨h1, h2, h3⟩ := hH.blk b x hx
    refine ⟨h1, h2.ext (killE_ext us) rfl (fun _ _ => rfl), fun g hg hs => ?_⟩
    rcases hs with hs | ⟨u, y, hu, hy, hr⟩
    · exact h3 g hg hs
    · exact hn (hH.inj b u x y g hx hy hg hr ▸ hu)
  · exact hH.inj b b' x x' g (hx' b x hx).2 (hx' b' x' hx'').2 hr hr'
  · rcases hg with hg | ⟨u, y, hu, hy, hr⟩
    · exact hH.st g hg
    · exact (live_lt hH hy hr).1

theorem killE_fr {E : Env} (us : List Nat) {F : Frame} (h : FrameOk F E) : FrameOk F (killE E us) := by
  refine ⟨h.os, h.tape, h.output, h.size, h.old, fun b x g hx hr => ?_, fun g hg => ?_⟩
  · by_cases hb : b ∈ us
    · simp [killE, hb] at hx
    · exact h.own b x g (by simpa [killE, hb] using hx) hr
  · rcases hg with hg | ⟨u, y, hu, hy, hr⟩
    · exact h.S g hg
    · exact .inr (h.own u y g hy hr)

/-- a new block -/
def newE (E : Env) (nm : Nat) (blk : Blk) (w' : World) : Env :=
  { w := w', ρ := fun b => if b = nm then some E.w.heap.size else E.ρ b, S := E.S, H := fun b => if b = nm then some blk else E.H b, U := fun b => E.U b ∨ b = nm }

theorem push_old {w w' : World} {o : Obj} (hw : w'.heap = w.heap.push o) {g : Nat} (h : g < w.heap.size) : w'.heap[g]? = w.heap[g]? := by
  rw [hw, Array.getElem?_push, if_neg (by omega)]
theorem push_new {w w' : World} {o : Obj} (hw : w'.heap = w.heap.push o) : w'.heap[w.heap.size]? = some o := by
  rw [hw, Array.getElem?_push, if_pos rfl]

theorem newE_ext {E : Env} (hH : HeapOk E) {nm : Nat} (hnm : ¬ E.U nm) {blk : Blk} {w' : World} {o : Obj} (hw : w'.heap = E.w.heap.push o) : Ext E (newE E nm blk w') := by
  refine ⟨fun g hg => ⟨hg, push_old hw (hH.st g hg)⟩, fun b hb => .inl hb, fun b x' hb hx => ?_⟩
  have hne : b ≠ nm := fun e => hnm (e ▸ hb)
  simp only [newE, hne, if_false] at hx
  refine ⟨x', hx, by simp [newE, hne], rfl, fun g cs el hr hc => ⟨cs, ?_, rfl⟩⟩
  rw [show (newE E nm blk w').w = w' from rfl, push_old hw (Array.getElem?_eq_some_iff.1 hc).1]
  exact hc

/-- what the cells of a new block are -/
def Holds (E : Env) : Blk → List Value → Prop
  | .arr t l, vs => ∃ us spare, vs = us ++ spare ∧ ListRel (CR E.w E.S t) l us
  | .var is, vs => IR E is vs
  | .mp _ _ _ _, _ => False

theorem newE_ok {E : Env} (hH : HeapOk E) {nm : Nat} (hnm : ¬ E.U nm) {blk : Blk} {w' : World} {cs : Array Value} {el : TypeId} (hw : w'.heap = E.w.heap.push (.cells cs el)) (hb : Holds E blk cs.toList) : HeapOk (newE E nm blk w') := by
  have hext := newE_ext hH hnm (blk := blk) hw
  refine ⟨fun b x hx => ?_, fun b b' x x' g hx hx' hr hr' => ?_, fun g hg => ?_⟩
  · by_cases h : b = nm
    · subst h
      simp only [newE, if_true, Option.some.injEq] at hx
      subst hx
      refine ⟨.inr rfl, ?_, fun g hg hs => ?_⟩
      · cases blk with
        | arr t l =>
          obtain ⟨us, spare, h1, h2⟩ := hb
          exact .inr ⟨_, cs, el, us, spare, by simp [newE], push_new hw, h1, h2.mono fun _ _ hx => hx.mono hext.S⟩
        | var is => exact ⟨_, cs, el, by simp [newE], push_new hw, hb.ext hext⟩
        | mp ka kt vt l => exact hb.elim
      · simp only [newE, if_true, Option.some.injEq] at hg
        have := hH.st g hs
        omega
    · simp only [newE, h, if_false] at hx
      obtain ⟨h1, h2, h3⟩ := hH.blk b x hx
      refine ⟨.inl h1, h2.ext hext (by simp [newE, h]) (fun g hg => push_old hw (live_lt hH hx hg).1), fun g hg => h3 g (by simpa [newE, h] using hg)⟩
  · by_cases h : b = nm <;> by_cases h' : b' = nm
    · rw [h, h']
    · simp only [newE, h, h', if_true, if_false, Option.some.injEq] at hx hx' hr hr'
      have := (live_lt hH hx' hr').1
      omega
    · simp only [newE, h, h', if_true, if_false, Option.some.injEq] at hx hx' hr hr'
      have := (live_lt hH hx hr).1
      omega
    · simp only [newE, h, h', if_false] at hx hx' hr hr'
      exact hH.inj b b' x x' g hx hx' hr hr'
  · rw [show (newE E nm blk w').w = w' from rfl, hw]
    have := hH.st g hg
    simp
    omega

theorem newE_fr {E : Env} (hH : HeapOk E) {nm : Nat} {blk : Blk} {w' : World} {o : Obj} (hw : w'.heap = E.w.heap.push o) (h1 : w'.os = E.w.os) (h2 : w'.tape = E.w.tape) (h3 : w'.output = E.w.output) {F : Frame} (h : FrameOk F E) : FrameOk F (newE E nm blk w') := by
  refine ⟨h1.trans h.os, h2.trans h.tape, h3.trans h.output, ?_, fun g hg ho => ?_, fun b x g hx hr => ?_, h.S⟩
  · rw [show (newE E nm blk w').w = w' from rfl, hw]
    have := h.size
    simp
    omega
  · rw [show (newE E nm blk w').w = w' from rfl, push_old hw (by have := h.size; omega)]
    exact h.old g hg ho
  · by_cases hb : b = nm
    · subst hb
      simp only [newE, if_true, Option.some.injEq] at hr
      have := h.size
      exact .inl (by omega)
    · simp only [newE, hb, if_false] at hx hr
      exact h.own b x g hx hr

theorem Step.newK {E : Env} {r : Res} {nm : Nat} {us : List Nat} {blk : Blk} {w' : World} {cs : Array Value} {el : TypeId} (hH : HeapOk E) (hr1 : r.add = [blk]) (hr2 : r.set = us.map fun u => (u, none)) (hnm : ¬ E.U nm)
    (hw : w'.heap = E.w.heap.push (.cells cs el)) (h1 : w'.os = E.w.os) (h2 : w'.tape = E.w.tape) (h3 : w'.output = E.w.output) (hb : Holds (killE E us) blk cs.toList) : Step E r nm (newE (killE E us) nm blk w') := by
  have hk := killE_ok hH us
  refine ⟨(killE_ext us).trans (newE_ext hk hnm hw), newE_ok hk hnm hw hb, fun b => ?_, fun b => ?_, fun F hF => newE_fr hk hw h1 h2 h3 (killE_fr us hF)⟩
  · rw [hr1, hr2]
    simp only [addF, newE, killE, setF_kill]
  · rw [hr1]
    simp only [newE, killE, List.length_singleton]
    constructor
    · rintro (h | h)
      · exact .inl h
      · exact .inr (by omega)
    · rintro (h | h)
      · exact .inl h
      · exact .inr (by omega)

/-- a block that is written -/
def setE (E : Env) (b : Nat) (blk : Blk) (w' : World) : Env := { E with w := w', H := fun x => if x = b then some blk else E.H x }

structure Writes (E : Env) (g : Nat) (cs cs' : Array Value) (el : TypeId) (w' : World) : Prop where
  was : E.w.heap[g]? = some (.cells cs el (0, 0))
  is : w'.heap[g]? = some (.cells cs' el (0, 0))
  len : cs'.size = cs.size
  oth : ∀ i, i ≠ g → w'.heap[i]? = E.w.heap[i]?
  size : w'.heap.size = E.w.heap.size
  os : w'.os = E.w.os
  tape : w'.tape = E.w.tape
  output : w'.output = E.w.output

theorem setE_ext {E : Env} (hH : HeapOk E) {b g : Nat} {x blk : Blk} {cs cs' : Array Value} {el : TypeId} {w' : World} (hx : E.H b = some x) (hr : E.ρ b = some g) (hsh : shape blk = shape x) (hw : Writes E g cs cs' el w') : Ext E (setE E b blk w') := by
  have hns : ∀ i, E.S i → i ≠ g := fun i hi e => (hH.blk b x hx).2.2 g hr (e ▸ hi)
  refine ⟨fun i hi => ⟨hi, hw.oth i (hns i hi)⟩, fun _ h => h, fun c y hc hy => ?_⟩
  by_cases h : c = b
  · subst h
    simp only [setE, if_true, Option.some.injEq] at hy
    subst hy
    refine ⟨x, hx, rfl, hsh, fun g' cs0 el0 hr' hc0 => ?_⟩
    rw [hr] at hr'; injection hr' with hr'; subst hr'
    rw [hw.was] at hc0
    injection hc0 with hc0
    injection hc0 with e1 e2
    subst e1 e2
    exact ⟨cs', hw.is, hw.len⟩
  · simp only [setE, h, if_false] at hy
    refine ⟨y, hy, rfl, rfl, fun g' cs0 el0 hr' hc0 => ⟨cs0, ?_, rfl⟩⟩
    have : g' ≠ g := fun e => h (hH.inj c b y x g hy hx (e ▸ hr') hr)
    exact (hw.oth g' this).trans hc0

theorem setE_ok {E : Env} (hH : HeapOk E) {b g : Nat} {x blk : Blk} {cs cs' : Array Value} {el : TypeId} {w' : World} (hx : E.H b = some x) (hr : E.ρ b = some g) (hsh : shape blk = shape x) (hw : Writes E g cs cs' el w') (hb : Holds E blk cs'.toList) : HeapOk (setE E b blk w') := by
  have hext := setE_ext hH hx hr hsh hw
  have hlive : ∀ c y, (setE E b blk w').H c = some y → ∃ y0, E.H c = some y0 := by
    intro c y hy
    by_cases h : c = b
    · exact ⟨x, h ▸ hx⟩
    · exact ⟨y, by simpa [setE, h] using hy⟩
  refine ⟨fun c y hy => ?_, fun c c' y y' i hy hy' hr1 hr2 => ?_, fun i hi => ?_⟩
  · by_cases h : c = b
    · subst h
      simp only [setE, if_true, Option.some.injEq] at hy
      subst hy
      obtain ⟨h1, h2, h3⟩ := hH.blk c x hx
      refine ⟨h1, ?_, h3⟩
      cases blk with
      | arr t l =>
        obtain ⟨us, spare, e1, e2⟩ := hb
        exact .inr ⟨g, cs', el, us, spare, hr, hw.is, e1, e2.mono fun _ _ hx => hx.mono hext.S⟩
      | var is => exact ⟨g, cs', el, hr, hw.is, hb.ext hext⟩
      | mp ka kt vt l => exact hb.elim
    · simp only [setE, h, if_false] at hy
      obtain ⟨h1, h2, h3⟩ := hH.blk c y hy
      exact ⟨h1, h2.ext hext rfl (fun g' hg' => hw.oth g' fun e => h (hH.inj c b y x g hy hx (e ▸ hg') hr)), h3⟩
  · obtain ⟨y0, h0⟩ := hlive c y hy
    obtain ⟨y1, h1⟩ := hlive c' y' hy'
    exact hH.inj c c' y0 y1 i h0 h1 hr1 hr2
  · rw [show (setE E b blk w').w = w' from rfl, hw.size]
    exact hH.st i hi

theorem setE_fr {E : Env} (hH : HeapOk E) {b g : Nat} {x blk : Blk} {cs cs' : Array Value} {el : TypeId} {w' : World} (hx : E.H b = some x) (hr : E.ρ b = some g) (hw : Writes E g cs cs' el w') {F : Frame} (h : FrameOk F E) : FrameOk F (setE E b blk w') := by
  refine ⟨hw.os.trans h.os, hw.tape.trans h.tape, hw.output.trans h.output, ?_, fun i hi ho => ?_, fun c y i hy hr' => ?_, h.S⟩
  · rw [show (setE E b blk w').w = w' from rfl, hw.size]; exact h.size
  · have : i ≠ g := by
      rintro rfl
      rcases h.own b x i hx hr with e | e
      · omega
      · exact ho e
    exact (hw.oth i this).trans (h.old i hi ho)
  · by_cases hc : c = b
    · subst hc; exact h.own c x i hx hr'
    · exact h.own c y i (by simpa [setE, hc] using hy) hr'

theorem Step.setK {E : Env} {r : Res} {nm : Nat} {us : List Nat} {b g : Nat} {x blk : Blk} {w' : World} {cs cs' : Array Value} {el : TypeId} (hH : HeapOk E) (hr1 : r.add = []) (hr2 : r.set = (us.map fun u => (u, none)) ++ [(b, some blk)])
    (hbu : b ∉ us) (hx : E.H b = some x) (hr : E.ρ b = some g) (hsh : shape blk = shape x) (hw : Writes E g cs cs' el w') (hb : Holds (killE E us) blk cs'.toList) : Step E r nm (setE (killE E us) b blk w') := by
  have hk := killE_ok hH us
  have hx' : (killE E us).H b = some x := by simp [killE, hbu, hx]
  have hw' : Writes (killE E us) g cs cs' el w' := ⟨hw.was, hw.is, hw.len, hw.oth, hw.size, hw.os, hw.tape, hw.output⟩
  refine ⟨(killE_ext us).trans (setE_ext hk hx' hr hsh hw'), setE_ok hk hx' hr hsh hw' hb, fun c => ?_, fun c => ?_, fun F hF => setE_fr hk hx' hr hw' (killE_fr us hF)⟩
  · rw [hr1, hr2, setF_append]
    simp only [addF, setE, killE, setF, setF_kill]
  · rw [hr1]
    simp [setE, killE]
    omega

/-- a row that an append has lengthened in its place: the old name is dead, the new one has its block -/
def appE (E : Env) (b nm : Nat) (blk : Blk) (w' : World) : Env :=
  { w := w', ρ := fun x => if x = nm then E.ρ b else E.ρ x, S := E.S, H := fun x => if x = nm then some blk else if x = b then none else E.H x, U := fun x => E.U x ∨ x = nm }

theorem Step.app {E : Env} {r : Res} {nm b g : Nat} {x blk : Blk} {w' : World} {cs cs' : Array Value} {el : TypeId} (hH : HeapOk E) (hr1 : r.add = [blk]) (hr2 : r.set = [(b, none)]) (hnm : ¬ E.U nm)
    (hx : E.H b = some x) (hr : E.ρ b = some g) (hw : Writes E g cs cs' el w') (hb : ∃ t l us spare, blk = .arr t l ∧ cs'.toList = us ++ spare ∧ ListRel (CR E.w E.S t) l us) : Step E r nm (appE E b nm blk w') := by
  have hbn : b ≠ nm := fun e => hnm (e ▸ (hH.blk b x hx).1)
  have hns : ∀ i, E.S i → i ≠ g := fun i hi e => (hH.blk b x hx).2.2 g hr (e ▸ hi)
  have hS : ∀ i, E.S i → E.S i ∧ w'.heap[i]? = E.w.heap[i]? := fun i hi => ⟨hi, hw.oth i (hns i hi)⟩
  have hold : ∀ c y, c ≠ nm → (appE E b nm blk w').H c = some y → c ≠ b ∧ E.H c = some y := by
    intro c y hc hy
    by_cases h : c = b
    · subst h; simp [appE, hc] at hy
    · exact ⟨h, by simpa [appE, h, hc] using hy⟩
  have hext : Ext E (appE E b nm blk w') := by
    refine ⟨hS, fun _ h => .inl h, fun c y hc hy => ?_⟩
    have hcn : c ≠ nm := fun e => hnm (e ▸ hc)
    obtain ⟨hcb, hy⟩ := hold c y hcn hy
    refine ⟨y, hy, by simp [appE, hcn], rfl, fun g' cs0 el0 hr' hc0 => ⟨cs0, ?_, rfl⟩⟩
    exact (hw.oth g' fun e => hcb (hH.inj c b y x g hy hx (e ▸ hr') hr)).trans hc0
  refine ⟨hext, ⟨fun c y hy => ?_, fun c c' y y' i hy hy' h1 h2 => ?_, fun i hi => ?_⟩, fun c => ?_, fun c => ?_, fun F h => ⟨hw.os.trans h.os, hw.tape.trans h.tape, hw.output.trans h.output, ?_, fun i hi ho => ?_, fun c y i hy hr' => ?_, h.S⟩⟩
  · by_cases hc : c = nm
    · subst hc
      simp only [appE, if_true, Option.some.injEq] at hy
      subst hy
      obtain ⟨t, l, us, spare, rfl, e1, e2⟩ := hb
      refine ⟨.inr rfl, .inr ⟨g, cs', el, us, spare, by simp [appE, hr], hw.is, e1, e2.mono fun _ _ hx => hx.mono hS⟩, fun i hi => ?_⟩
      have : E.ρ b = some i := by simpa [appE] using hi
      exact (hH.blk b x hx).2.2 i this
    · obtain ⟨hcb, hy⟩ := hold c y hc hy
      obtain ⟨h1, h2, h3⟩ := hH.blk c y hy
      exact ⟨.inl h1, h2.ext hext (by simp [appE, hc]) (fun g' hg' => hw.oth g' fun e => hcb (hH.inj c b y x g hy hx (e ▸ hg') hr)), fun i hi => h3 i (by simpa [appE, hc] using hi)⟩
  · by_cases hc : c = nm <;> by_cases hc' : c' = nm
    · rw [hc, hc']
    · obtain ⟨hcb, hy'⟩ := hold c' y' hc' hy'
      simp only [appE, hc, hc', if_true, if_false] at h1 h2
      exact absurd (hH.inj c' b y' x i hy' hx h2 h1) hcb
    · obtain ⟨hcb, hy⟩ := hold c y hc hy
      simp only [appE, hc, hc', if_true, if_false] at h1 h2
      exact absurd (hH.inj c b y x i hy hx h1 h2) hcb
    · obtain ⟨_, hy⟩ := hold c y hc hy
      obtain ⟨_, hy'⟩ := hold c' y' hc' hy'
      simp only [appE, hc, hc', if_false] at h1 h2
      exact hH.inj c c' y y' i hy hy' h1 h2
  · rw [show (appE E b nm blk w').w = w' from rfl, hw.size]
    exact hH.st i hi
  · rw [hr1, hr2]
    simp only [addF, setF, appE]
  · rw [hr1]
    simp only [appE, List.length_singleton]
    constructor
    · rintro (h | h)
      · exact .inl h
      · exact .inr (by omega)
    · rintro (h | h)
      · exact .inl h
      · exact .inr (by omega)
  · rw [show (appE E b nm blk w').w = w' from rfl, hw.size]; exact h.size
  · have : i ≠ g := by
      rintro rfl
      rcases h.own b x i hx hr with e | e
      · omega
      · exact ho e
    exact (hw.oth i this).trans (h.old i hi ho)
  · by_cases hc : c = nm
    · subst hc
      exact h.own b x i hx (by simpa [appE] using hr')
    · obtain ⟨_, hy⟩ := hold c y hc hy
      exact h.own c y i hy (by simpa [appE, hc] using hr')

end Go.Fw
