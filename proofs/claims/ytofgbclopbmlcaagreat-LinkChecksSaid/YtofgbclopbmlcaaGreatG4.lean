/- Part 4 of the proof: Fw36 Fw19 Fw20 Fw21 Fw22. No statement is handed in here; conditions: none. -/
import Derived.Test.YtofgbclopbmlcaaGreatG3
import Derived.MapKept
import Derived.Laws.BytesString
import Derived.Laws.IdiomStrings
import Derived.WideKeyRuns
import Derived.Lib.SlicesS
import Derived.Laws.Cover3
import Derived.Tactics
import Derived.LoopN
/- Maps. -/
namespace Go.Fw
set_option linter.unusedVariables false
set_option linter.unusedSimpArgs false

-- a map that is written

structure WritesM (E : Env) (g : Nat) (es es' : Array MapEntry) (c c' : Nat) (w' : World) : Prop where
  was : E.w.heap[g]? = some (.map es c)
  is : w'.heap[g]? = some (.map es' c')
  oth : ∀ i, i ≠ g → w'.heap[i]? = E.w.heap[i]?
  size : w'.heap.size = E.w.heap.size
  os : w'.os = E.w.os
  tape : w'.tape = E.w.tape
  output : w'.output = E.w.output

section
variable {E : Env} {b g : Nat} {ka : Bool} {kt vt : Ty} {l l' : List (Den kt × Den vt)} {es es' : Array MapEntry} {c c' : Nat} {w' : World}

theorem setM_ext (hH : HeapOk E) (hx : E.H b = some (.mp ka kt vt l)) (hr : E.ρ b = some g) (hw : WritesM E g es es' c c' w') : Ext E (setE E b (.mp ka kt vt l') w') := by
  have hns : ∀ i, E.S i → i ≠ g := fun i hi e => (hH.blk b _ hx).2.2 g hr (e ▸ hi)
  refine ⟨fun i hi => ⟨hi, hw.oth i (hns i hi)⟩, fun _ h => h, fun d y hc hy => ?_⟩
  by_cases h : d = b
  · subst h
    simp only [setE, if_true, Option.some.injEq] at hy
    subst hy
    refine ⟨_, hx, rfl, rfl, fun g' cs0 el0 hr' hc0 => ?_⟩
    rw [hr] at hr'; injection hr' with hr'; subst hr'
    rw [hw.was] at hc0
    cases hc0
  · simp only [setE, h, if_false] at hy
    refine ⟨y, hy, rfl, rfl, fun g' cs0 el0 hr' hc0 => ⟨cs0, ?_, rfl⟩⟩
    have : g' ≠ g := fun e => h (hH.inj d b y _ g hy hx (e ▸ hr') hr)
    exact (hw.oth g' this).trans hc0

theorem setM_ok (hH : HeapOk E) (hx : E.H b = some (.mp ka kt vt l)) (hr : E.ρ b = some g) (hw : WritesM E g es es' c c' w') (hb : MapR ka kt vt l' es'.toList) : HeapOk (setE E b (.mp ka kt vt l') w') := by
  have hext := setM_ext (l' := l') hH hx hr hw
  have hlive : ∀ d y, (setE E b (.mp ka kt vt l') w').H d = some y → ∃ y0, E.H d = some y0 := by
    intro d y hy
    by_cases h : d = b
    · exact ⟨_, h ▸ hx⟩
    · exact ⟨y, by simpa [setE, h] using hy⟩
  refine ⟨fun d y hy => ?_, fun d d' y y' i hy hy' hr1 hr2 => ?_, fun i hi => ?_⟩
  · by_cases h : d = b
    · subst h
      simp only [setE, if_true, Option.some.injEq] at hy
      subst hy
      obtain ⟨h1, h2, h3⟩ := hH.blk d _ hx
      exact ⟨h1, ⟨g, es', c', hr, hw.is, hb⟩, h3⟩
    · simp only [setE, h, if_false] at hy
      obtain ⟨h1, h2, h3⟩ := hH.blk d y hy
      exact ⟨h1, h2.ext hext rfl (fun g' hg' => hw.oth g' fun e => h (hH.inj d b y _ g hy hx (e ▸ hg') hr)), h3⟩
  · obtain ⟨y0, h0⟩ := hlive d y hy
    obtain ⟨y1, h1⟩ := hlive d' y' hy'
    exact hH.inj d d' y0 y1 i h0 h1 hr1 hr2
  · rw [show (setE E b (.mp ka kt vt l') w').w = w' from rfl, hw.size]
    exact hH.st i hi

theorem Step.setM {r : Res} {nm : Nat} (hH : HeapOk E) (hr1 : r.add = []) (hr2 : r.set = [(b, some (.mp ka kt vt l'))]) (hx : E.H b = some (.mp ka kt vt l)) (hr : E.ρ b = some g) (hw : WritesM E g es es' c c' w') (hb : MapR ka kt vt l' es'.toList) :
    Step E r nm (setE E b (.mp ka kt vt l') w') := by
  refine ⟨setM_ext hH hx hr hw, setM_ok hH hx hr hw hb, fun d => ?_, fun d => ?_, fun F h => ⟨hw.os.trans h.os, hw.tape.trans h.tape, hw.output.trans h.output, ?_, fun i hi ho => ?_, fun d y i hy hr' => ?_, h.S⟩⟩
  · rw [hr1, hr2]; rfl
  · rw [hr1]
    simp [setE]
    omega
  · rw [show (setE E b (.mp ka kt vt l') w').w = w' from rfl, hw.size]; exact h.size
  · have : i ≠ g := by
      rintro rfl
      rcases h.own b _ i hx hr with e | e
      · omega
      · exact ho e
    exact (hw.oth i this).trans (h.old i hi ho)
  · by_cases hc : d = b
    · subst hc; exact h.own d _ i hx hr'
    · exact h.own d y i (by simpa [setE, hc] using hy) hr'

theorem Step.newM {r : Res} {nm : Nat} {cl : Nat} (hH : HeapOk E) (hr1 : r.add = [.mp ka kt vt []]) (hr2 : r.set = []) (hnm : ¬ E.U nm)
    (hw : w'.heap = E.w.heap.push (.map #[] cl)) (h1 : w'.os = E.w.os) (h2 : w'.tape = E.w.tape) (h3 : w'.output = E.w.output) : Step E r nm (newE E nm (.mp ka kt vt []) w') := by
  have hext := newE_ext hH hnm (blk := .mp ka kt vt []) hw
  refine ⟨hext, ⟨fun d y hy => ?_, fun d d' y y' i hy hy' e1 e2 => ?_, fun i hi => ?_⟩, fun d => ?_, fun d => ?_, fun F hF => newE_fr hH hw h1 h2 h3 hF⟩
  · by_cases h : d = nm
    · subst h
      simp only [newE, if_true, Option.some.injEq] at hy
      subst hy
      refine ⟨.inr rfl, ⟨_, #[], cl, by simp [newE], push_new hw, trivial⟩, fun g hg hs => ?_⟩
      simp only [newE, if_true, Option.some.injEq] at hg
      have := hH.st g hs
      omega
    · simp only [newE, h, if_false] at hy
      obtain ⟨k1, k2, k3⟩ := hH.blk d y hy
      exact ⟨.inl k1, k2.ext hext (by simp [newE, h]) (fun g hg => push_old hw (live_lt hH hy hg).1), fun g hg => k3 g (by simpa [newE, h] using hg)⟩
  · by_cases h : d = nm <;> by_cases h' : d' = nm
    · rw [h, h']
    · simp only [newE, h, h', if_true, if_false, Option.some.injEq] at hy hy' e1 e2
      have := (live_lt hH hy' e2).1
      omega
    · simp only [newE, h, h', if_true, if_false, Option.some.injEq] at hy hy' e1 e2
      have := (live_lt hH hy e1).1
      omega
    · simp only [newE, h, h', if_false] at hy hy' e1 e2
      exact hH.inj d d' y y' i hy hy' e1 e2
  · rw [show (newE E nm (.mp ka kt vt []) w').w = w' from rfl, hw]
    have := hH.st i hi
    simp
    omega
  · rw [hr1, hr2]
    simp only [addF, newE, setF]
  · rw [hr1]
    simp only [newE, List.length_singleton]
    constructor
    · rintro (h | h)
      · exact .inl h
      · exact .inr (by omega)
    · rintro (h | h)
      · exact .inl h
      · exact .inr (by omega)
end

-- keys

section
variable {P : Program} {T : Tab}

theorem keyFlat_flat : ∀ {u : Ty}, keyFlat u = true → u.flat = true
  | .int _, _ => rfl
  | .ints _ _, h => by cases h
  | .bool, _ => rfl
  | .str, _ => rfl
  | .sl _, h => by cases h
  | .pair a b, h => by
    simp only [keyFlat, Bool.and_eq_true] at h
    simp only [Ty.flat, Bool.and_eq_true]
    exact ⟨keyFlat_flat h.1, keyFlat_flat h.2⟩
theorem denEq_eq : ∀ {u : Ty} {x y : Den u}, u.flat = true → denEq u x y = true → x = y
  | .int _, x, y, _, h => of_decide_eq_true h
  | .ints _ _, x, y, _, h => of_decide_eq_true h
  | .bool, x, y, _, h => by
    have h : ((x : Bool) == y) = true := h
    exact eq_of_beq h
  | .str, x, y, _, h => (Lib.bytes_beq_iff x y).1 h
  | .sl _, _, _, h, _ => by cases h
  | .pair a b, x, y, h, he => by
    simp only [Ty.flat, Bool.and_eq_true] at h
    simp only [denEq, Bool.and_eq_true] at he
    exact Prod.ext (denEq_eq h.1 he.1) (denEq_eq h.2 he.2)
theorem CR.uniq {w : World} {S : Nat → Prop} : ∀ {u : Ty} {x : Den u} {vs us : List Value}, u.flat = true → CR w S u x vs → CR w S u x us → vs = us
  | .int _, _, _, _, _, h, h' => by rw [show _ = _ from h, show _ = _ from h']
  | .ints _ _, _, _, _, _, h, h' => by rw [h.2, h'.2]
  | .bool, _, _, _, _, h, h' => by rw [show _ = _ from h, show _ = _ from h']
  | .str, _, _, _, _, h, h' => by rw [show _ = _ from h, show _ = _ from h']
  | .sl _, _, _, _, h, _, _ => by cases h
  | .pair a b, _, _, _, hf, ⟨r, s, e, h1, h2⟩, ⟨r', s', e', h1', h2'⟩ => by
    simp only [Ty.flat, Bool.and_eq_true] at hf
    rw [e, e', h1.uniq hf.1 h1', h2.uniq hf.2 h2']
theorem bytes_same (s : ByteArray) : (s == s) = true := (MapKept.bytes_beq s s).2 rfl
theorem sameBits_flat {w : World} {S : Nat → Prop} (n : Nat) : ∀ {u : Ty} {x : Den u} {vs : List Value}, keyFlat u = true → CR w S u x vs → ∀ v ∈ vs, Instr.sameBits n v v = true
  | .int _, _, _, _, h => by intro v hv; rw [show _ = _ from h] at hv; simp at hv; subst hv; simp [Instr.sameBits]
  | .ints _ _, _, _, hf, _ => by cases hf
  | .bool, _, _, _, h => by intro v hv; rw [show _ = _ from h] at hv; simp at hv; subst hv; simp [Instr.sameBits]
  | .str, _, _, _, h => by intro v hv; rw [show _ = _ from h] at hv; simp at hv; subst hv; simp [Instr.sameBits, bytes_same]
  | .sl _, _, _, hf, _ => by cases hf
  | .pair a b, _, _, hf, ⟨r, s, e, h1, h2⟩ => by
    simp only [keyFlat, Bool.and_eq_true] at hf
    intro v hv
    subst e
    rcases List.mem_append.1 hv with hv | hv
    · exact sameBits_flat n hf.1 h1 v hv
    · exact sameBits_flat n hf.2 h2 v hv
theorem sameBits_key {ka : Bool} {kt : Ty} {d : Den kt} {v : Value} (hf : keyFlat kt = true) (h : KV ka kt d v) : Instr.sameBits 10000 v v = true := by
  obtain ⟨vs, hc, h⟩ := h
  have hc := hc default fun _ => True
  rcases h with ⟨_, rfl⟩ | ⟨_, rfl⟩
  · have := sameBits_flat 9999 hf hc
    simp only [Instr.sameBits, beq_self_eq_true, Bool.true_and, List.all_eq_true]
    intro p hp
    have : p.1 = p.2 ∧ p.1 ∈ vs := by
      have hz : ∀ (l : List Value) (p : Value × Value), p ∈ l.zip l → p.1 = p.2 ∧ p.1 ∈ l := by
        intro l
        induction l with
        | nil => intro p hp; simp at hp
        | cons a l ih =>
          intro p hp
          simp only [List.zip_cons_cons, List.mem_cons] at hp
          rcases hp with rfl | hp
          · exact ⟨rfl, by simp⟩
          · obtain ⟨e1, e2⟩ := ih p hp
            exact ⟨e1, List.mem_cons_of_mem _ e2⟩
      exact hz vs p hp
    rw [← this.1]
    exact sameBits_flat 9999 hf hc p.1 this.2
  · exact sameBits_flat 10000 hf hc v (by simp)
theorem key_uniq {ka : Bool} {kt : Ty} {d : Den kt} {v v' : Value} (hf : keyFlat kt = true) (h : KV ka kt d v) (h' : KV ka kt d v') : v = v' := by
  obtain ⟨vs, hc, h⟩ := h
  obtain ⟨us, hd, h'⟩ := h'
  have := (hc default fun _ => True).uniq (keyFlat_flat hf) (hd default fun _ => True)
  subst this
  rcases h with ⟨h1, rfl⟩ | ⟨h1, h2⟩ <;> rcases h' with ⟨h1', rfl⟩ | ⟨h1', h2'⟩
  · rfl
  · rw [h1] at h1'; cases h1'
  · rw [h1] at h1'; cases h1'
  · rw [h2] at h2'; injection h2' 

/-- the keys' type fits -/
def KeyFit (P : Program) (k : TypeId) (ka : Bool) (kt : Ty) : Prop :=
  (ka = false ∧ isAggT P k = false ∧ ((∃ i, kt = .int i ∧ P.underlying k = some (.int i)) ∨ (kt = .bool ∧ P.underlying k = some .bool) ∨ (kt = .str ∧ P.underlying k = some .string))) ∨
  (ka = true ∧ isAggT P k = true ∧ (∃ F, P.underlying k = some (.struct F)) ∧ P.keyTypeAt 30 k = true ∧ tyFits P 30 kt k = true)

theorem check_fields {n m d : Nat} (em : Bool) (IH : ∀ (u : Ty) (t : TypeId), tyFits P n u t = true → P.keyTypeAt m t = true → keyFlat u = true → ∀ (w w0 : World) (S : Nat → Prop) (x : Value) (vs : List Value) (dx : Den u), Form P t x vs → CR w0 S u dx vs → (Instr.checkKey em d t x).run P w = .ok () w)
    {xs : Array Value} {w w0 : World} {S : Nat → Prop} : ∀ (fs : List Field) (u : Ty) (off : Nat) (px vs : List Value) (dx : Den u), fitsF P (tyFits P n) u fs off = true → keyFlat u = true → (∀ f ∈ fs, f.name ≠ "_" ∧ P.keyTypeAt m f.type = true) →
    xs.toList = px ++ vs → px.length = off → CR w0 S u dx vs → (forIn fs PUnit.unit fun (f : Field) (r : PUnit) => do
      if f.name ≠ "_" then
        let v ← part f.type xs f.offset
        Instr.checkKey em d f.type v
        pure (ForInStep.yield PUnit.unit)
      else pure (ForInStep.yield PUnit.unit)).run P w = .ok PUnit.unit w
  | [], u, _, _, _, _, h, _, _, _, _, _ => by simp [fitsF] at h
  | [f], u, off, px, vs, dx, h, hk, hn, hx, hpx, cx => by
    simp only [fitsF, Bool.and_eq_true] at h
    obtain ⟨⟨h1, h2⟩, h3⟩ := h
    have h2 := Nat.eq_of_beq_eq_true h2
    have h3 := Nat.eq_of_beq_eq_true h3
    obtain ⟨hn1, hk1⟩ := hn f (by simp)
    obtain ⟨D, i, hu, hi⟩ := key_info hk1
    obtain ⟨a, ha, fa⟩ := part_form hi hu (xs := xs) (pre := px) (r := vs) (s := []) (by simp [hx]) (by rw [cx.len, h3]) (fun hg => by rw [cx.len]; exact size_one h1 hg) w
    have he := IH u f.type h1 hk1 hk w w0 S a vs dx fa cx
    rw [hpx, ← h2] at ha
    simp only [List.forIn_cons, List.forIn_nil, Sem.run_bind, hn1, ne_eq, not_false_eq_true, if_true, Result.andThen_ok, ha, he, Sem.run_pure]
  | f :: g :: fs, u, off, px, vs, dx, h, hk, hn, hx, hpx, cx => by
    cases u with
    | pair p q =>
      simp only [fitsF, Bool.and_eq_true] at h
      obtain ⟨⟨⟨h1, h2⟩, h3⟩, h4⟩ := h
      have h2 := Nat.eq_of_beq_eq_true h2
      have h3 := Nat.eq_of_beq_eq_true h3
      simp only [keyFlat, Bool.and_eq_true] at hk
      obtain ⟨hn1, hk1⟩ := hn f (by simp)
      obtain ⟨D, i, hu, hi⟩ := key_info hk1
      obtain ⟨r, s, rfl, cx1, cx2⟩ := cx
      obtain ⟨a, ha, fa⟩ := part_form hi hu (xs := xs) (pre := px) (r := r) (s := s) (by simp [hx]) (by rw [cx1.len, h3]) (fun hg => by rw [cx1.len]; exact size_one h1 hg) w
      have he := IH p f.type h1 hk1 hk.1 w w0 S a r dx.1 fa cx1
      have rest := check_fields em IH (xs := xs) (w := w) (g :: fs) q (off + p.size) (px ++ r) s dx.2 h4 hk.2 (fun f' hf' => hn f' (List.mem_cons_of_mem _ hf')) (by simp [hx]) (by simp [hpx, cx1.len]) cx2
      rw [hpx, ← h2] at ha
      rw [List.forIn_cons]
      simp only [Sem.run_bind, hn1, ne_eq, not_false_eq_true, if_true, Result.andThen_ok, ha, he, Sem.run_pure]
      exact rest
    | _ => simp [fitsF] at h

theorem check_den (em : Bool) : ∀ (n m : Nat) (u : Ty) (t : TypeId), tyFits P n u t = true → P.keyTypeAt m t = true → keyFlat u = true → ∀ (d : Nat), n + 1 ≤ d → ∀ (w w0 : World) (S : Nat → Prop) (x : Value) (vs : List Value) (dx : Den u), Form P t x vs → CR w0 S u dx vs →
    (Instr.checkKey em d t x).run P w = .ok () w
  | 0, _, u, t, h, _, _ => by simp [tyFits] at h
  | n + 1, 0, u, t, _, h, _ => by simp [Program.keyTypeAt] at h
  | n + 1, m + 1, u, t, h, hk, hf => by
    intro d hd w w0 S x vs dx fx cx
    obtain ⟨d, rfl⟩ : ∃ d', d = d' + 1 := ⟨d - 1, by omega⟩
    unfold tyFits at h
    split at h
    · rename_i hu
      have hg : isAggT P t = false := by simp [isAggT, hu]
      simp only [CR] at cx
      subst cx
      rcases fx with ⟨_, h'⟩ | ⟨fx, _⟩
      · rw [hg] at h'; cases h'
      injection fx with fx _
      subst fx
      simp [Instr.checkKey, run_underlying hu]
    · rename_i hu
      have hg : isAggT P t = false := by simp [isAggT, hu]
      simp only [CR] at cx
      subst cx
      rcases fx with ⟨_, h'⟩ | ⟨fx, _⟩
      · rw [hg] at h'; cases h'
      injection fx with fx _
      subst fx
      simp [Instr.checkKey, run_underlying hu]
    · rename_i hu
      have hg : isAggT P t = false := by simp [isAggT, hu]
      simp only [CR] at cx
      subst cx
      rcases fx with ⟨_, h'⟩ | ⟨fx, _⟩
      · rw [hg] at h'; cases h'
      injection fx with fx _
      subst fx
      simp [Instr.checkKey, run_underlying hu]
    · cases hf
    · rename_i F hu
      have hg : isAggT P t = true := by simp [isAggT, hu]
      rcases fx with ⟨rfl, _⟩ | ⟨_, h'⟩
      · simp only [Bool.and_eq_true] at h
        unfold Program.keyTypeAt at hk
        simp only [hu, Bool.and_eq_true, Bool.not_eq_true', Array.all_eq_true'] at hk
        obtain ⟨⟨hall, _⟩, hst⟩ := hk
        rw [Instr.checkKey]
        simp only [Sem.run_bind, run_underlying hu, Result.andThen_ok]
        rw [← Array.forIn_toList]
        have := check_fields em (n := n) (m := m) (d := d) (fun u t h1 h2 h3 => check_den em n m u t h1 h2 h3 d (by omega)) (xs := vs.toArray) (w := w) F.toList _ 0 [] vs dx h.1 hf (fun f hf => by
          have := hall f (by simpa using hf)
          simpa using this) (by simp) rfl cx
        simp at this ⊢
        rw [this]
        rfl
      · rw [hg] at h'; cases h'
    · cases hf
    · cases h

theorem sameNow_key {k : TypeId} {kt : Ty} (hk : KeyFit P k false kt) {d d' : Den kt} {v v' : Value} (h : KV false kt d v) (h' : KV false kt d' v') : ∃ D, P.underlying k = some D ∧ Instr.sameNow D v v' = some (denEq kt d d') ∧ (∀ em n w, (Instr.checkKey em (n + 1) k v).run P w = .ok () w) := by
  obtain ⟨vs, hc, h⟩ := h
  obtain ⟨us, hd, h'⟩ := h'
  have hc := hc default fun _ => True
  have hd := hd default fun _ => True
  rcases h with ⟨h1, _⟩ | ⟨_, rfl⟩
  · cases h1
  rcases h' with ⟨h1, _⟩ | ⟨_, rfl⟩
  · cases h1
  rcases hk with ⟨_, _, hk⟩ | ⟨hk, _⟩
  · rcases hk with ⟨i, rfl, hu⟩ | ⟨rfl, hu⟩ | ⟨rfl, hu⟩
    · simp only [CR] at hc hd
      injection hc with hc _; injection hd with hd _
      subst hc; subst hd
      exact ⟨_, hu, by simp [Instr.sameNow, denEq]; rfl, fun em n w => by simp [Instr.checkKey, run_underlying hu]⟩
    · simp only [CR] at hc hd
      injection hc with hc _; injection hd with hd _
      subst hc; subst hd
      exact ⟨_, hu, by simp [Instr.sameNow, denEq], fun em n w => by simp [Instr.checkKey, run_underlying hu]⟩
    · simp only [CR] at hc hd
      injection hc with hc _; injection hd with hd _
      subst hc; subst hd
      refine ⟨_, hu, ?_, fun em n w => by simp [Instr.checkKey, run_underlying hu]⟩
      simp only [Instr.sameNow, denEq, Option.some.injEq, strEq]
      rw [Bool.eq_iff_iff, MapKept.bytes_beq, Lib.bytes_beq_iff]
  · cases hk

theorem MapR.at_ {ka : Bool} {kt vt : Ty} : ∀ {l : List (Den kt × Den vt)} {es : List MapEntry}, MapR ka kt vt l es → l.length = es.length
  | [], [], _ => rfl
  | _ :: _, _ :: _, ⟨_, _, h⟩ => by simp [h.at_]
  | [], _ :: _, h => h.elim
  | _ :: _, [], h => h.elim
theorem MapR.push {ka : Bool} {kt vt : Ty} {k : Den kt} {v : Den vt} {e : MapEntry} (hk : KV ka kt k e.key) (hv : ∀ w S, CR w S vt v [e.val]) : ∀ {l : List (Den kt × Den vt)} {es : List MapEntry}, MapR ka kt vt l es → MapR ka kt vt (l ++ [(k, v)]) (es ++ [e])
  | [], [], _ => ⟨hk, hv, trivial⟩
  | _ :: _, _ :: _, ⟨h1, h2, h⟩ => ⟨h1, h2, h.push hk hv⟩
  | [], _ :: _, h => h.elim
  | _ :: _, [], h => h.elim

/-- what a search finds -/
inductive Found (ka : Bool) (kt vt : Ty) (l : List (Den kt × Den vt)) (es : List MapEntry) (d : Den kt) (kv : Value) (i : Nat) : Option (Nat × Value) → Prop where
  | none : mapGet l d = Option.none → (∀ v, mapPut l d v = l ++ [(d, v)]) → Found ka kt vt l es d kv i Option.none
  | some (j : Nat) (e : MapEntry) (v0 : Den vt) : es[j]? = Option.some e → e.key = kv → mapGet l d = Option.some v0 → (∀ w S, CR w S vt v0 [e.val]) →
      (∀ v e', e'.key = kv → (∀ w S, CR w S vt v [e'.val]) → MapR ka kt vt (mapPut l d v) (es.set j e')) → Found ka kt vt l es d kv i (Option.some (i + j, e.val))

theorem Found.cons {ka : Bool} {kt vt : Ty} {p : Den kt × Den vt} {l : List (Den kt × Den vt)} {e0 : MapEntry} {es : List MapEntry} {d : Den kt} {kv : Value} {i : Nat} {r : Option (Nat × Value)} (hne : denEq kt d p.1 = false) (h0 : KV ka kt p.1 e0.key) (h1 : ∀ w S, CR w S vt p.2 [e0.val])
    (h : Found ka kt vt l es d kv (i + 1) r) : Found ka kt vt (p :: l) (e0 :: es) d kv i r := by
  cases h with
  | none g1 g2 => exact .none (by simp only [mapGet, hne, g1]) (fun v => by simp only [mapPut, hne, g2, List.cons_append])
  | some j e v0 g1 g2 g3 g4 g5 =>
    have e1 : i + 1 + j = i + (j + 1) := by omega
    rw [e1]
    exact .some (j + 1) e v0 (by simpa using g1) g2 (by simp only [mapGet, hne, g3]) g4 (fun v e' k1 k2 => by
      simp only [mapPut, hne, List.set_cons_succ]
      exact ⟨h0, h1, g5 v e' k1 k2⟩)
theorem Found.here {ka : Bool} {kt vt : Ty} {p : Den kt × Den vt} {l : List (Den kt × Den vt)} {e0 : MapEntry} {es : List MapEntry} {d : Den kt} {kv : Value} {i : Nat} (hf : keyFlat kt = true) (hd : KV ka kt d kv) (he : denEq kt d p.1 = true) (h0 : KV ka kt p.1 e0.key) (h1 : ∀ w S, CR w S vt p.2 [e0.val])
    (hr : MapR ka kt vt l es) : Found ka kt vt (p :: l) (e0 :: es) d kv i (Option.some (i, e0.val)) := by
  have e := denEq_eq (keyFlat_flat hf) he
  have := Found.some (ka := ka) (l := p :: l) (es := e0 :: es) (d := d) (kv := kv) (i := i) 0 e0 p.2 rfl (key_uniq hf (e ▸ h0) hd) (by simp only [mapGet, he]) h1 (fun v e' k1 k2 => by
    simp only [mapPut, he, List.set_cons_zero]
    exact ⟨k1 ▸ hd, k2, hr⟩)
  simpa using this

theorem find_now {k : TypeId} {kt vt : Ty} (hk : KeyFit P k false kt) (hf : keyFlat kt = true) {d : Den kt} {kv : Value} (hd : KV false kt d kv) {D : TypeDesc} (hD : P.underlying k = some D) : ∀ (l : List (Den kt × Den vt)) (es : List MapEntry) (i : Nat), MapR false kt vt l es →
    ∃ r, Instr.findNow D kv es i = some r ∧ Found false kt vt l es d kv i r
  | [], [], i, _ => ⟨none, rfl, .none rfl fun v => rfl⟩
  | p :: l, e :: es, i, ⟨h0, h1, h2⟩ => by
    obtain ⟨D', hu, hs, _⟩ := sameNow_key hk hd h0
    rw [hD] at hu
    injection hu with hu
    subst hu
    unfold Instr.findNow
    rw [hs]
    cases hb : denEq kt d p.1 with
    | true => exact ⟨_, rfl, Found.here hf hd hb h0 h1 h2⟩
    | false =>
      obtain ⟨r, g1, g2⟩ := find_now hk hf hd hD l es (i + 1) h2
      exact ⟨r, g1, g2.cons hb h0 h1⟩
  | [], _ :: _, _, h => h.elim
  | _ :: _, [], _, h => h.elim

theorem kv_form {k : TypeId} {kt : Ty} (hg : isAggT P k = true) {d : Den kt} {v : Value} (h : KV true kt d v) : ∃ vs, Form P k v vs ∧ ∀ w S, CR w S kt d vs := by
  obtain ⟨vs, hc, h⟩ := h
  rcases h with ⟨_, rfl⟩ | ⟨h, _⟩
  · exact ⟨vs, .inl ⟨rfl, hg⟩, hc⟩
  · cases h

theorem find_asking {k : TypeId} {kt vt : Ty} (hk : KeyFit P k true kt) (hf : keyFlat kt = true) {d : Den kt} {kv : Value} (hd : KV true kt d kv) {w : World} : ∀ (l : List (Den kt × Den vt)) (es : List MapEntry) (i : Nat), MapR true kt vt l es →
    ∃ r, (Instr.findAsking k kv es i).run P w = .ok r w ∧ Found true kt vt l es d kv i r
  | [], [], i, _ => ⟨none, by simp [Instr.findAsking], .none rfl fun v => rfl⟩
  | p :: l, e :: es, i, ⟨h0, h1, h2⟩ => by
    rcases hk with ⟨hk, _⟩ | ⟨_, hg, hF, hkt, hty⟩
    · cases hk
    obtain ⟨vs, f1, c1⟩ := kv_form hg hd
    obtain ⟨us, f2, c2⟩ := kv_form hg h0
    have heq : (Op.equal k kv e.key).run P w = .ok (denEq kt d p.1) w := eq_den 30 30 kt k hty hkt 10000 (by omega) w w (fun _ => True) kv e.key vs us d p.1 f1 f2 (c1 _ _) (c2 _ _)
    unfold Instr.findAsking
    simp only [Sem.run_bind, heq, Result.andThen_ok]
    cases hb : denEq kt d p.1 with
    | true => exact ⟨_, by simp, Found.here hf hd hb h0 h1 h2⟩
    | false =>
      obtain ⟨r, g1, g2⟩ := find_asking (.inr ⟨rfl, hg, hF, hkt, hty⟩) hf hd l es (i + 1) h2
      exact ⟨r, by simpa using g1, g2.cons hb h0 h1⟩
  | [], _ :: _, _, h => h.elim
  | _ :: _, [], _, h => h.elim

theorem find_key {k : TypeId} {ka : Bool} {kt vt : Ty} (hk : KeyFit P k ka kt) (hf : keyFlat kt = true) {d : Den kt} {kv : Value} (hd : KV ka kt d kv) (w : World) {l : List (Den kt × Den vt)} {es : List MapEntry} (h : MapR ka kt vt l es) :
    (∃ r, (Instr.findKey k kv es).run P w = .ok r w ∧ Found ka kt vt l es d kv 0 r) ∧ ∀ em, (Instr.checkKey em 10000 k kv).run P w = .ok () w := by
  cases ka with
  | false =>
    have hu : ∃ D, P.underlying k = some D := by
      rcases hk with ⟨_, _, hk⟩ | ⟨hk, _⟩
      · rcases hk with ⟨i, _, hu⟩ | ⟨_, hu⟩ | ⟨_, hu⟩ <;> exact ⟨_, hu⟩
      · cases hk
    obtain ⟨D, hu⟩ := hu
    obtain ⟨r, h1, h2⟩ := find_now hk hf hd hu l es 0 h
    obtain ⟨_, _, _, h3⟩ := sameNow_key hk hd hd
    exact ⟨⟨r, MapKept.run_findKey hu h1, h2⟩, fun em => h3 em 9999 w⟩
  | true =>
    obtain ⟨r, h1, h2⟩ := find_asking hk hf hd (w := w) l es 0 h
    rcases hk with ⟨hk, _⟩ | ⟨_, hg, ⟨F, hF⟩, hkt, hty⟩
    · cases hk
    obtain ⟨vs, f1, c1⟩ := kv_form hg hd
    refine ⟨⟨r, ?_, h2⟩, fun em => check_den em 30 30 kt k hty hkt hf 10000 (by omega) w w (fun _ => True) kv vs d f1 (c1 _ _)⟩
    rw [run_findKey_eq w (by rw [hF])]
    exact h1

theorem decKey_rel {E : Env} (hH : HeapOk E) {ka : Bool} {kt : Ty} (hf : keyFlat kt = true) {x : AV} {v : Value} {d : Den kt} (hx : AVR E x v) (h : decKey ka kt x = some d) : KV ka kt d v := by
  unfold decKey at h
  split at h
  · rename_i c
    split at h
    · rename_i d' us hd
      injection h with h
      subst h
      have : CR E.w (SU E us) kt d' [v] := decAll_rel hH (fun b x hx => by cases hx) hd (show IR E [c] [v] from ⟨[v], [], rfl, hx, rfl⟩)
      exact ⟨[v], fun w S => this.flat (keyFlat_flat hf), .inr ⟨rfl, rfl⟩⟩
    · cases h
  · rename_i cs
    split at h
    · rename_i d' us hd
      injection h with h
      subst h
      obtain ⟨vals, rfl, hi⟩ := hx
      have := decAll_rel hH (fun b x hx => by cases hx) hd hi
      exact ⟨vals.toList, fun w S => this.flat (keyFlat_flat hf), .inl ⟨rfl, by simp⟩⟩
    · cases h
  · cases h

theorem scalar_flat {t : Ty} (h : scalarTy t = true) : keyFlat t = true := by cases t <;> first | rfl | cases h
theorem decVal_rel {E : Env} (hH : HeapOk E) {vt : Ty} (hf : scalarTy vt = true) {x : AV} {v : Value} {d : Den vt} (hx : AVR E x v) (h : decKey false vt x = some d) : ∀ w S, CR w S vt d [v] := by
  obtain ⟨vs, hc, h⟩ := decKey_rel hH (scalar_flat hf) hx h
  rcases h with ⟨h, _⟩ | ⟨_, rfl⟩
  · cases h
  · exact hc

theorem TyOk.zeroN {t : TypeId} {ti : TI} (h : TyOk P t ti) : ∃ z, (∀ w, (zeroValue t).run P w = .ok z w) ∧ (∀ E : Env, IR E ti.zero z.cells.toList) ∧ z.cells.size = ti.size ∧
    (∀ u, ti.ety = some u → u.size = ti.size ∧ ∀ w S, CR w S u (dflt u) z.cells.toList) ∧ (ti.isAgg = false → z.cells.toList = [z]) := by
  obtain ⟨i, z, h1, h2, h3, h4, h5, h6, h7⟩ := h.inf
  exact ⟨z, fun w => by simp [zeroValue, typeInfo, h1, h4], h5, h6, h7, fun hg => h.nag hg i z h1 h4⟩
/-- what the type of a map tells -/
theorem info_ok (hT : TabOk P T) {t : TypeId} {ka : Bool} {kt vt : Ty} (h : isInfo T t ka kt vt = true) : ∃ k e, P.underlying t = some (.map k e) ∧ KeyFit P k ka kt ∧ keyFlat kt = true ∧ scalarTy vt = true ∧
    ∃ z, (∀ w, (zeroValue e).run P w = .ok z w) ∧ ∀ w S, CR w S vt (dflt vt) [z] := by
  unfold isInfo at h
  split at h
  · rename_i ka' kt' vt' hm
    simp only [Bool.and_eq_true, decide_eq_true_eq] at h
    obtain ⟨⟨rfl, rfl⟩, rfl⟩ := h
    unfold mapInfo at hm
    split at hm
    · rename_i k e _ _ _ _ _ ht
      have hu := (hT.ty t _ ht).und
      simp only [DescOk] at hu
      split at hm
      · rename_i ki ei hki hei
        split at hm
        · rename_i kt vt hkt hvt
          split at hm
          · rename_i hc
            injection hm with hm
            injection hm with e1 e2
            injection e2 with e2 e3
            subst e1; subst e2; subst e3
            simp only [Bool.and_eq_true, Bool.not_eq_true'] at hc
            obtain ⟨⟨⟨c1, c2⟩, c3⟩, c4⟩ := hc
            refine ⟨k, e, hu, ?_, c2, c3, ?_⟩
            · have hkok := hT.ty k _ hki
              have hd := hkok.und
              unfold keyTI at c1
              split at c1
              · rename_i i i' hdk
                simp only [decide_eq_true_eq] at c1
                subst c1
                rw [hdk] at hd
                simp only [DescOk] at hd
                exact .inl ⟨by unfold TI.isAgg; rw [hdk], by simp [isAggT, hd], .inl ⟨_, rfl, hd⟩⟩
              · rename_i hdk
                rw [hdk] at hd
                simp only [DescOk] at hd
                exact .inl ⟨by unfold TI.isAgg; rw [hdk], by simp [isAggT, hd], .inr (.inl ⟨rfl, hd⟩)⟩
              · rename_i hdk
                rw [hdk] at hd
                simp only [DescOk] at hd
                exact .inl ⟨by unfold TI.isAgg; rw [hdk], by simp [isAggT, hd], .inr (.inr ⟨rfl, hd⟩)⟩
              · rename_i hdk
                have hcmp := hkok.cmp c1
                rw [hkt] at hcmp
                simp only [cmpOk, Bool.and_eq_true, Bool.not_eq_true'] at hcmp
                obtain ⟨⟨⟨g1, g2⟩, g3⟩, _⟩ := hcmp
                rw [hdk] at hd
                simp only [DescOk] at hd
                obtain ⟨F, hF, _⟩ := hd
                exact .inr ⟨by unfold TI.isAgg; rw [hdk], g1, ⟨F, hF⟩, g2, g3⟩
              · cases c1
            · have heok := hT.ty e _ hei
              obtain ⟨z, z1, _, z3, z4, z5⟩ := heok.zeroN
              obtain ⟨hsz, hcr⟩ := z4 _ hvt
              refine ⟨z, z1, fun w S => ?_⟩
              have := hcr w S
              have hz : z.cells.toList = [z] := z5 c4
              rwa [hz] at this
          · cases hm
        · cases hm
      · cases hm
    · cases hm
  · cases h

theorem makeMap_run {E : Env} (hH : HeapOk E) {t : TypeId} {ka : Bool} {kt vt : Ty} {nm : Nat} (hnm : ¬ E.U nm) : ∃ E', (Instr.makeMap t none).run P E.w = .ok (.map (some E.w.heap.size)) E'.w ∧
    Step E { pre := none, val := .cell (.map nm), add := [.mp ka kt vt []], set := [] } nm E' ∧ AVR E' (.cell (.map nm)) (.map (some E.w.heap.size)) := by
  refine ⟨newE E nm (.mp ka kt vt []) (E.w.alloc (.map #[] 0)), rfl, Step.newM (cl := 0) hH rfl rfl hnm rfl rfl rfl rfl, ?_⟩
  refine ⟨_, ⟨rfl, rfl⟩, .inr rfl, fun ka' kt' vt' l' _ => ⟨E.w.heap.size, ?_, rfl⟩⟩
  show (if nm = nm then some E.w.heap.size else E.ρ nm) = _
  rw [if_pos rfl]

theorem mapPut_run {E : Env} {look : Nat → Option Blk} (hT : TabOk P T) (hH : HeapOk E) (hl : ∀ b x, look b = some x → E.H b = some x) {t : TypeId} {m k x : AV} {vm vk vx : Value} {r : Res} {nm : Nat} (hm : AVR E m vm) (hk : AVR E k vk) (hx : AVR E x vx) (h : mapPutA T look t m k x = some r) :
    ∃ E', (Instr.mapUpdate t vm vk vx).run P E.w = .ok () E'.w ∧ Step E r nm E' ∧ r.val = .dead := by
  unfold mapPutA at h
  split at h
  · rename_i b
    split at h
    · rename_i ka kt vt l hb
      split at h
      · rename_i hi
        split at h
        · rename_i d v hd hv
          injection h with h
          subst h
          obtain ⟨key, elem, hu, hfit, hflat, hsc, _⟩ := info_ok hT hi
          have hbx := hl _ _ hb
          obtain ⟨v0, ⟨e, _⟩, _, hh⟩ := hm
          injection e with e
          subst e
          obtain ⟨g, hr, rfl⟩ := hh _ _ _ _ hbx
          obtain ⟨_, ⟨g', es, c, h1, h2, h3⟩, _⟩ := hH.blk _ _ hbx
          rw [hr] at h1
          injection h1 with h1
          subst h1
          have hkv := decKey_rel hH hflat hk hd
          have hvv := decVal_rel hH hsc hx hv
          obtain ⟨⟨res, hf, hfound⟩, hck⟩ := find_key hfit hflat hkv E.w h3
          have hset := fun o' => MapKept.heap_set (o' := o') h2
          have wr : ∀ es' c', WritesM E g es es' c c' { E.w with heap := E.w.heap.setIfInBounds g (.map es' c') } := fun es' c' =>
            ⟨h2, (hset (.map es' c')).1, (hset (.map es' c')).2, by simp, rfl, rfl, rfl⟩
          cases hfound with
          | none g1 g2 =>
            refine ⟨_, ?_, Step.setM hH rfl rfl hbx hr (wr (es.push ⟨vk, vx, c⟩) (c + 1)) ?_, rfl⟩
            · simp [Instr.mapUpdate, run_underlying hu, MapKept.run_getObj_map h2, hck, hf, MapKept.run_setObj_map _ h2, setE]
            · rw [g2, Array.toList_push]
              exact MapR.push hkv hvv h3
          | some j e v0 g1 g2 g3 g4 g5 =>
            have hj : es[j]? = some e := by rw [← Array.getElem?_toList]; exact g1
            have hst : (Instr.keyThatStays vk vk).run P E.w = .ok vk E.w := by simp [Instr.keyThatStays, sameBits_key hflat hkv]
            refine ⟨_, ?_, Step.setM hH rfl rfl hbx hr (wr (es.modify j fun e => { e with key := vk, val := vx }) c) ?_, rfl⟩
            · have hlt : j < es.size := (Array.getElem?_eq_some_iff.1 hj).1
              simp [Instr.mapUpdate, run_underlying hu, MapKept.run_getObj_map h2, hck, hf, MapKept.run_setObj_map _ h2, setE, hj, g2, hst]
            · have e1 : (es.modify j fun e => { e with key := vk, val := vx }).toList = es.toList.set j { e with key := vk, val := vx } := by
                rw [Array.toList_modify]
                apply List.ext_getElem?
                intro i
                rw [List.getElem?_modify, List.getElem?_set]
                by_cases hij : j = i
                · subst hij
                  have hlt : j < es.toList.length := (List.getElem?_eq_some_iff.1 g1).1
                  simp [g1, hlt]
                  simpa using hlt
                · simp [hij]
              rw [e1]
              exact g5 v _ rfl hvv
        · cases h
      · cases h
    · cases h
  · cases h

theorem getOr_cr {vt : Ty} {w : World} {S : Nat → Prop} {o : Option (Den vt)} {d : Den vt} {v : Value} (h : CR w S vt (getOr o d) [v]) {E : Env} (hw : E.w = w) (hS : E.S = S) {c : Cell} (hc : cells vt (getOr o d) = [c]) : CellR E c [v] := by
  subst hw; subst hS
  have := h.items
  rw [hc] at this
  obtain ⟨r, s, e, h1, h2⟩ := this
  simp only [IR] at h2
  subst h2
  simp at e
  subst e
  exact h1
theorem lookup_run {E : Env} {look : Nat → Option Blk} (hT : TabOk P T) (hH : HeapOk E) (hl : ∀ b x, look b = some x → E.H b = some x) {t : TypeId} {m k : AV} {ok : Bool} {vm vk : Value} {r : Res} (hm : AVR E m vm) (hk : AVR E k vk) (h : lookupA T look t m k ok = some r) :
    ∃ v, (Instr.lookup t vm vk ok).run P E.w = .ok v E.w ∧ AVR E r.val v ∧ r.add = [] ∧ r.set = [] := by
  unfold lookupA at h
  split at h
  · rename_i b
    split at h
    · rename_i ka kt vt l hb
      split at h
      · rename_i hi
        split at h
        · rename_i d hd
          split at h
          · rename_i c hc
            obtain ⟨key, elem, hu, hfit, hflat, hsc, z, hz1, hz2⟩ := info_ok hT hi
            have hbx := hl _ _ hb
            obtain ⟨v0, ⟨e, _⟩, _, hh⟩ := hm
            injection e with e
            subst e
            obtain ⟨g, hr, rfl⟩ := hh _ _ _ _ hbx
            obtain ⟨_, ⟨g', es, cl, h1, h2, h3⟩, _⟩ := hH.blk _ _ hbx
            rw [hr] at h1
            injection h1 with h1
            subst h1
            have hkv := decKey_rel hH hflat hk hd
            obtain ⟨⟨res, hf, hfound⟩, hck⟩ := find_key hfit hflat hkv E.w h3
            have fin : ∀ (v : Value) (b : Bool), (∀ w S, CR w S vt (getOr (mapGet l d) (dflt vt)) [v]) → b = isSomeB (mapGet l d) → (Instr.lookup t (.map (some g)) vk ok).run P E.w = .ok (if ok then .tuple #[v, .bool b] else v) E.w → ∃ v, (Instr.lookup t (.map (some g)) vk ok).run P E.w = .ok v E.w ∧ AVR E r.val v ∧ r.add = [] ∧ r.set = [] := by
              intro v b hv hbb hrun
              subst hbb
              have hcell := getOr_cr (hv E.w E.S) rfl rfl hc
              cases ok with
              | true =>
                simp only [ok1, Option.some.injEq] at h
                subst h
                exact ⟨_, hrun, ⟨#[v, .bool (isSomeB (mapGet l d))], rfl, v, [.bool (isSomeB (mapGet l d))], rfl, hcell, _, [], rfl, ⟨rfl, rfl⟩, rfl⟩, rfl, rfl⟩
              | false =>
                simp only [ok1, Option.some.injEq] at h
                subst h
                exact ⟨_, hrun, hcell, rfl, rfl⟩
            cases hfound with
            | none g1 g2 =>
              refine fin z false (fun w S => by rw [g1]; exact hz2 w S) (by rw [g1]; rfl) ?_
              cases ok <;> simp [Instr.lookup, run_underlying hu, MapKept.run_getObj_map h2, hck, hf, hz1]
            | some j e v0 g1 g2 g3 g4 g5 =>
              refine fin e.val true (fun w S => by rw [g3]; exact g4 w S) (by rw [g3]; rfl) ?_
              cases ok <;> simp [Instr.lookup, run_underlying hu, MapKept.run_getObj_map h2, hck, hf]
          · cases h
        · cases h
      · cases h
    · cases h
  · cases h

theorem u8_cells {w : World} {S : Nat → Prop} : ∀ {l : List Int} {us : List Value}, ListRel (CR w S (.int .u8)) l us → us = l.map (.int .u8)
  | [], _, h => h
  | n :: l, _, ⟨r, s, e, h1, h2⟩ => by
    have h1 : r = [.int .u8 n] := h1
    rw [e, h1, u8_cells h2]; rfl
theorem push_fold : ∀ (ns : List Int) (s : ByteArray), ns.foldl (fun r n => r.push (UInt8.ofNat n.toNat)) s = ⟨s.data ++ (ns.map fun n => UInt8.ofNat n.toNat).toArray⟩
  | [], s => by simp
  | n :: ns, s => by
    rw [List.foldl_cons, push_fold ns]
    congr 1
    apply Array.ext'
    simp [ByteArray.push]
theorem bytes_run {w : World} {S S' : Nat → Prop} {l : List Int} {v : Value} (h : SlR w S (CR w S' (.int .u8)) l v) : (Conv.bytesToString v).run P w = .ok (.string (strOf l)) w := by
  obtain ⟨a, cap, rfl, hcap, hh⟩ := h
  cases a with
  | none =>
    cases l with
    | nil => rfl
    | cons x l => obtain ⟨ad, _, h, _⟩ := hh (by simp); cases h
  | some ad =>
    have key : ∀ j (n : Int), l[j]? = some n → w.cell? (ad.add j) = some (.int .u8 n) := by
      intro j n hj
      have hne : l ≠ [] := by intro e; subst e; simp at hj
      obtain ⟨ad', us, e, _, hl, hc⟩ := hh hne
      injection e with e
      subst e
      have := u8_cells hl
      subst this
      exact hc j _ (by simp [hj])
    have hload := run_loadCells_list (P := P) w ad (l.map (.int .u8)) (fun j v hv => by
      rw [List.getElem?_map] at hv
      cases hj : l[j]? with
      | none => rw [hj] at hv; cases hv
      | some n => rw [hj] at hv; injection hv with hv; subst hv; exact key j n hj)
    rw [List.length_map] at hload
    rw [run_bytesToString w ad l.length cap l hload, push_fold]
    congr 3
    simp

/-- a row that nobody writes -/
def roE (E : Env) (w' : World) : Env := { E with w := w', S := fun g => E.S g ∨ g = E.w.heap.size }
theorem Step.newRo {E : Env} {r : Res} {nm : Nat} {w' : World} {o : Obj} (hH : HeapOk E) (hr1 : r.add = []) (hr2 : r.set = []) (hw : w'.heap = E.w.heap.push o) (h1 : w'.os = E.w.os) (h2 : w'.tape = E.w.tape) (h3 : w'.output = E.w.output) : Step E r nm (roE E w') := by
  have hext : Ext E (roE E w') := by
    refine ⟨fun g hg => ⟨.inl hg, push_old hw (hH.st g hg)⟩, fun b hb => hb, fun b x' hb hx => ⟨x', hx, rfl, rfl, fun g cs el hr hc => ⟨cs, ?_, rfl⟩⟩⟩
    rw [show (roE E w').w = w' from rfl, push_old hw (Array.getElem?_eq_some_iff.1 hc).1]
    exact hc
  refine ⟨hext, ⟨fun b x hx => ?_, fun b b' x x' g hx hx' hr hr' => hH.inj b b' x x' g hx hx' hr hr', fun g hg => ?_⟩, fun b => by rw [hr1, hr2]; rfl, fun b => by rw [hr1]; simp [roE]; omega, fun F h => ⟨h1.trans h.os, h2.trans h.tape, h3.trans h.output, ?_, fun g hg ho => ?_, fun b x g hx hr => h.own b x g hx hr, fun g hg => ?_⟩⟩
  · obtain ⟨k1, k2, k3⟩ := hH.blk b x hx
    refine ⟨k1, k2.ext hext rfl (fun g hg => push_old hw (live_lt hH hx hg).1), fun g hg hs => ?_⟩
    rcases hs with hs | hs
    · exact k3 g hg hs
    · have := (live_lt hH hx hg).1
      omega
  · rw [show (roE E w').w = w' from rfl, hw]
    rcases hg with hg | hg
    · have := hH.st g hg
      simp
      omega
    · simp
      omega
  · rw [show (roE E w').w = w' from rfl, hw]
    have := h.size
    simp
    omega
  · rw [show (roE E w').w = w' from rfl, push_old hw (by have := h.size; omega)]
    exact h.old g hg ho
  · rcases hg with hg | hg
    · exact h.S g hg
    · have := h.size
      exact .inr (.inl (by omega))
theorem strBytes_run {E : Env} (hH : HeapOk E) {s d e : TypeId} (t : ByteArray) {nm : Nat} (hs : P.underlying s = some .string) (hd : P.underlying d = some (.slice e)) (he : P.underlying e = some (.int .u8)) :
    ∃ v E', (convert s d (.string t)).run P E.w = .ok v E'.w ∧ Step E { pre := none, val := .cell (.ro (.int .u8) (bytesOf t)), add := [], set := [] } nm E' ∧ AVR E' (.cell (.ro (.int .u8) (bytesOf t))) v := by
  refine ⟨_, roE E _, run_bytes_of_string E.w s d e t hs hd he, Step.newRo hH rfl rfl rfl rfl rfl rfl, ?_⟩
  refine ⟨_, rfl, some ⟨E.w.heap.size, 0, none⟩, grownCap E.w t.size 0 e, by simp [bytesOf], ?_, fun hne => ?_⟩
  · have : t.size ≤ grownCap E.w t.size 0 e := grownCap_ge E.w t.size 0 e
    simpa [bytesOf] using this
  · refine ⟨_, _, rfl, .inr rfl, toNat_bytes t.data.toList, fun k u hk => ?_⟩
    rw [add_at, Nat.zero_add]
    have hb : (E.w.drew).heap.size = E.w.heap.size := rfl
    have := World.cell?_alloc_mark E.w.drew (bytesRow t (grownCap E.w t.size 0 e)) e ((bytesRow t (grownCap E.w t.size 0 e)).size, (bytesRow t (grownCap E.w t.size 0 e)).size + 1) k
    rw [hb] at this
    refine this.trans ?_
    unfold bytesRow
    have hlt := (List.getElem?_eq_some_iff.1 hk).1
    rw [List.length_map] at hlt
    rw [Array.getElem?_append_left (by simpa using hlt)]
    rw [List.getElem?_map] at hk
    rw [Array.getElem?_map]
    simpa using hk

end
end Go.Fw

/- Every operation, once. -/
namespace Go.Fw
set_option linter.unusedVariables false
set_option linter.unusedSimpArgs false

section
variable {P : Program} {T : Tab}

theorem ones_rel {E : Env} : ∀ {xs : List AV} {ys : List V1} {vs : List Value}, ones xs = some ys → VasR E xs vs → VsR E ys vs
  | [], ys, vs, h, hr => by
    simp only [ones, Option.some.injEq] at h
    subst h
    exact hr
  | .dead :: xs, ys, vs, h, _ => by simp [ones] at h
  | .tup _ :: xs, ys, vs, h, _ => by simp [ones] at h
  | .one x :: xs, ys, _, h, ⟨v, r, e, h1, h2⟩ => by
    subst e
    unfold ones at h
    cases h3 : ones xs with
    | none => rw [h3] at h; cases h
    | some ys' =>
      rw [h3] at h
      injection h with h
      subst h
      exact ⟨v, r, rfl, h1, ones_rel h3 h2⟩

theorem callSpec_sound {E : Env} (hH : HeapOk E) {look : Nat → Option Blk} (hl : ∀ b x, look b = some x → E.H b = some x) {f : FuncId} {s : CSpec} (hs : CSound P f s) {args : List V1} {vs : Array Value} {nm : Nat} {r : Res} (ha : VsR E args vs.toList) (h : callSpec look nm s args = some r) (hp : ∀ p, r.pre = some p → p)
    (hnm : ∀ k, k < r.add.length → ¬ E.U (nm + k)) : Calls P f vs E.w fun e w' => ∃ v E', e = .returned v ∧ E'.w = w' ∧ Step E r nm E' ∧ AVR E' r.val v := by
  unfold callSpec at h
  cases hw : s.wr with
  | false =>
    rw [hw] at h
    simp only at h
    cases hv : mapO (viewV look) args with
    | none => rw [hv] at h; cases h
    | some xs =>
      rw [hv] at h
      simp only at h
      split at h
      · rename_i p rv fresh hrun
        split at h
        · cases h
        · rename_i hc
          simp only [Option.some.injEq] at h
          subst h
          have hrel := viewVs_rel (us := args.flatMap (·.names)) hH hl (fun n hn => hn) hv ha
          refine (hs (viewE E (args.flatMap (·.names))) vs xs [] p rv [] fresh (fun b => rfl) (fun b => by simp [viewE]) (viewE_ok hH _) hrel hrun (fun q hq => hp q hq)).mono ?_
          rintro e w' ⟨v, E', rfl, rfl, hb⟩
          have hro : args.flatMap (·.names) = [] ∨ (rv.hasRo = false ∧ ∀ b ∈ fresh, b.plain = true) := by
            rw [Bool.and_eq_false_iff] at hc
            rcases hc with hc | hc
            · right
              simp at hc
              exact ⟨hc.1, fun b hb => hc.2 b hb⟩
            · exact .inl (viewVs_names hv hc)
          obtain ⟨E'', h1, h2, h3⟩ := call_read (p := p) hH (fun k hk => hnm k (by simpa using hk)) hb hro
          exact ⟨v, E'', rfl, h1, h2, h3⟩
      · cases h
  | true =>
    rw [hw] at h
    simp only at h
    cases hr : reach look 100 (args.flatMap (·.names)) [] with
    | none => rw [hr] at h; cases h
    | some acc =>
      rw [hr] at h
      simp only at h
      cases hm : mapO look acc with
      | none => rw [hm] at h; cases h
      | some bl =>
        rw [hm] at h
        simp only at h
        split at h
        · rename_i p rv upd fresh hrun
          split at h
          · rename_i hul
            simp only [Option.some.injEq] at h
            subst h
            have hul := Nat.eq_of_beq_eq_true hul
            obtain ⟨hn, hmem, _, hcl⟩ := reach_ok 100 _ [] acc (by simp) hr
            obtain ⟨hlen, hget⟩ := mapO_some hm
            have hbl : ∀ (i b : Nat), acc[i]? = some b → ∃ x, E.H b = some x ∧ (bl.map (·.rn (idx acc)))[i]? = some (x.rn (idx acc)) ∧ ∀ n ∈ x.names, n ∈ acc := by
              intro i b hb
              obtain ⟨x, h1, h2⟩ := hget i b hb
              refine ⟨x, hl _ _ h1, by simp [h2], fun n hnx => ?_⟩
              rcases hcl b (List.mem_of_getElem? hb) with h3 | ⟨y, h3, h4⟩
              · simp at h3
              · rw [h1] at h3
                injection h3 with h3
                subst h3
                exact h4 n hnx
            have hbl' : ∀ (i b : Nat), acc[i]? = some b → ∃ x, E.H b = some x ∧ (bl.map (·.rn (idx acc)))[i]? = some (x.rn (idx acc)) := fun i b h => let ⟨x, h1, h2, _⟩ := hbl i b h; ⟨x, h1, h2⟩
            have hlen' : (bl.map (·.rn (idx acc))).length = acc.length := by simpa using hlen
            have hrel : VsR (passE E acc (bl.map (·.rn (idx acc)))) (args.map (·.rn (idx acc))) vs.toList :=
              VsR.rn (E := E) (E' := passE E acc (bl.map (·.rn (idx acc)))) (f := idx acc) rfl (.inl fun _ h => h) (fun i hi => passE_rn hH hn hlen' hbl' (hmem i hi)) ha
            refine (hs (passE E acc (bl.map (·.rn (idx acc)))) vs _ _ p rv upd fresh (fun b => rfl) (fun b => Iff.rfl) (passE_ok hH hn hlen' hbl) hrel hrun (fun q hq => hp q hq)).mono ?_
            rintro e w' ⟨v, E', rfl, rfl, hb⟩
            obtain ⟨E'', h1, h2, h3⟩ := call_write (p := p) hH hn hlen' (by omega) hbl' (fun k hk => hnm k (by simpa using hk)) hb (fun i => match acc[i]? with | some b => b | none => nm + (i - acc.length)) (fun i => rfl)
            exact ⟨v, E'', rfl, h1, h2, h3⟩
          · cases h
        · cases h

theorem callFn_sound {E : Env} (hP : SpecsOk P T) (hH : HeapOk E) {look : Nat → Option Blk} (hl : ∀ b x, look b = some x → E.H b = some x) {f : FuncId} {args : List AV} {vs : Array Value} {nm : Nat} {r : Res} (ha : VasR E args vs.toList) (h : callFn T look nm f args = some r) (hp : ∀ p, r.pre = some p → p)
    (hnm : ∀ k, k < r.add.length → ¬ E.U (nm + k)) : Enters P f ∧ Calls P f vs E.w fun e w' => ∃ v E', e = .returned v ∧ E'.w = w' ∧ Step E r nm E' ∧ AVR E' r.val v := by
  unfold callFn at h
  cases hs : T.fn f with
  | none => rw [hs] at h; cases h
  | some s =>
    rw [hs] at h
    simp only at h
    cases ho : ones args with
    | none => rw [ho] at h; cases h
    | some xs =>
      rw [ho] at h
      exact ⟨(hP f s hs).2, callSpec_sound hH hl (hP f s hs).1 (ones_rel ho ha) h hp hnm⟩

theorem callFunc_run {f : FuncId} (h : Enters P f) (vs : Array Value) (w : World) : (callFunc f vs).run P w = .ok (.enter f vs) w := by
  obtain ⟨fn, h1, h2, h3⟩ := h
  have h2' : ¬ fn.name = "runtime.NumGoroutine" := by simpa using h2
  have h4 : ¬ fn.body = none := by
    intro e
    rw [e] at h3
    cases h3
  simp [callFunc, h1, h2', h4]

theorem VasR.append {E : Env} : ∀ {xs ys : List AV} {vs us : List Value}, VasR E xs vs → VasR E ys us → VasR E (xs ++ ys) (vs ++ us)
  | [], _, _, _, h, h' => by simp only [VasR] at h; subst h; exact h'
  | _ :: _, _, _, _, ⟨v, r, e, h1, h2⟩, h' => by subst e; exact ⟨v, r ++ _, rfl, h1, h2.append h'⟩

theorem evs_rel {E : Env} {ev : Operand → AV} {ρ : Operand → Value} (hev : ∀ x, AVR E (ev x) (ρ x)) : ∀ (l : List Operand), VasR E (l.map ev) (l.map ρ)
  | [] => rfl
  | x :: l => ⟨ρ x, l.map ρ, rfl, hev x, evs_rel hev l⟩

theorem ps_rel {E : Env} {ev : Operand → AV} {ρ : Operand → Value} (hev : ∀ x, AVR E (ev x) (ρ x)) : ∀ (l : List (Nat × Operand)), PsR E (l.map fun (i, x) => (i, ev x)) (l.map fun (i, x) => (i, ρ x))
  | [] => rfl
  | (i, x) :: l => ⟨ρ x, _, rfl, hev x, ps_rel hev l⟩

theorem caps_rel {E : Env} : ∀ (bs : List Nat) (caps : List Value), caps.length = bs.length → (∀ (i b : Nat), bs[i]? = some b → ∃ u, caps[i]? = some u ∧ u.oneCell' = true ∧ E.U b ∧ ∀ cs, E.H b = some (.var cs) → ∃ g, E.ρ b = some g ∧ u = pt g 0) → VasR E (bs.map fun b => .cell (.ptr b 0)) caps
  | [], caps, h, _ => List.eq_nil_of_length_eq_zero h
  | b :: bs, [], h, _ => by simp at h
  | b :: bs, u :: caps, h, hh => by
    obtain ⟨u', h1, h2, h3, h4⟩ := hh 0 b rfl
    simp at h1
    subst h1
    exact ⟨u, caps, rfl, ⟨u, ⟨rfl, h2⟩, h3, h4⟩, caps_rel bs caps (by simpa using h) fun i b hb => hh (i + 1) b (by simpa using hb)⟩

theorem opt_rel {E : Env} {ev : Operand → AV} {ρ : Operand → Value} (hev : ∀ x, AVR E (ev x) (ρ x)) (o : Option Operand) : OptR E (o.map ev) (o.map ρ) := by
  cases o with
  | none => trivial
  | some x => exact hev x

theorem pick_run {E : Env} {c a b : AV} {vc va vb : Value} {r : Res} (hc : AVR E c vc) (ha : AVR E a va) (hb : AVR E b vb) (h : pickA c a b = some r) (w : World) :
    ∃ v, (do pure (.value (if ← asBool vc then va else vb)) : Sem Next).run P w = .ok (.value v) w ∧ AVR E r.val v ∧ r.add = [] ∧ r.set = [] := by
  unfold pickA at h
  split at h
  · rename_i t
    obtain ⟨e, _⟩ := hc
    injection e with e
    subst e
    split at h
    · simp only [ok1, Option.some.injEq] at h
      subst h
      obtain ⟨e, _⟩ := ha
      injection e with e
      subst e
      obtain ⟨e, _⟩ := hb
      injection e with e
      subst e
      refine ⟨_, by simp [asBool]; rfl, ?_, rfl, rfl⟩
      cases t <;> exact ⟨rfl, rfl⟩
    · cases t with
      | true =>
        simp only at h
        split at h
        · cases h
        · simp only [ok1, Option.some.injEq] at h
          subst h
          exact ⟨va, by simp [asBool], ha, rfl, rfl⟩
      | false =>
        simp only at h
        split at h
        · cases h
        · simp only [ok1, Option.some.injEq] at h
          subst h
          exact ⟨vb, by simp [asBool], hb, rfl, rfl⟩
  · cases h

theorem und_some (hT : TabOk P T) {t : TypeId} {ti : TI} (h : T.ty t = some ti) : ∃ d, P.underlying t = some d := by
  have := (hT.ty t ti h).und
  cases hd : ti.desc <;> rw [hd] at this <;> simp only [DescOk] at this
  case struct => obtain ⟨F, h1, _⟩ := this; exact ⟨_, h1⟩
  case iface => obtain ⟨F, h1⟩ := this; exact ⟨_, h1⟩
  case other => obtain ⟨d, h1, _⟩ := this; exact ⟨d, h1⟩
  all_goals exact ⟨_, this⟩

theorem asPtr0_eq {x : AV} {b : Nat} (h : asPtr0 x = some b) : x = .cell (.ptr b 0) := by
  unfold asPtr0 at h
  split at h
  · injection h with h
    subst h
    rfl
  · cases h

theorem VsR.get {E : Env} : ∀ {xs : List V1} {vs : List Value} {i : Nat} {x : V1}, VsR E xs vs → xs[i]? = some x → ∃ v, vs[i]? = some v ∧ V1R E x v
  | [], _, i, x, _, h => by simp at h
  | y :: ys, _, 0, x, ⟨v, r, e, h1, h2⟩, h => by subst e; simp at h; subst h; exact ⟨v, rfl, h1⟩
  | y :: ys, _, i + 1, x, ⟨v, r, e, h1, h2⟩, h => by subst e; simpa using h2.get (by simpa using h)

theorem len_run {E : Env} {look : Nat → Option Blk} (hT : TabOk P T) (hH : HeapOk E) (hl : ∀ b x, look b = some x → E.H b = some x) {t ty : TypeId} {tys : Array TypeId} {x : AV} {v : Value} {n : Int} (hx : AVR E x v) (h : lenA T look t x = some n) (ht : tys[0]? = some t) :
    (Builtin.len_ tys ty #[v]).run P E.w = .ok (.int .i64 n) E.w := by
  unfold lenA at h
  split at h
  · rename_i hty
    have hu := (hT.ty t _ hty).und
    simp only [DescOk] at hu
    split at h
    · injection h with h
      subst h
      obtain ⟨e, _⟩ := hx
      injection e with e
      subst e
      simp [Builtin.len_, ht, run_underlying hu, goInt]
    · cases h
  · rename_i hty
    have hu := (hT.ty t _ hty).und
    simp only [DescOk] at hu
    split at h
    · injection h with h
      subst h
      obtain ⟨e, _⟩ := hx
      injection e with e
      subst e
      simp [Builtin.len_, ht, run_underlying hu, goInt]
    · split at h
      · rename_i hb
        injection h with h
        subst h
        obtain ⟨v', ⟨e, _⟩, hU, hh⟩ := hx
        injection e with e
        subst e
        obtain ⟨g, cap, _, rfl, _⟩ := hh _ (hl _ _ hb)
        simp [Builtin.len_, ht, run_underlying hu, goInt]
      · cases h
    · split at h
      · rename_i hs
        injection h with h
        subst h
        obtain ⟨a, cap, rfl, _⟩ := sliceOf_rel hH hl hs hx
        simp [Builtin.len_, ht, run_underlying hu, goInt]
      · cases h
    · cases h
  · cases h

theorem maxA_run {E : Env} {xs : List AV} {vs : List Value} {r : AV} (hv : VasR E xs vs) (h : maxA xs = some r) (w : World) {tys : Array TypeId} {ty : TypeId} : ∃ v, (Builtin.max_ tys ty vs.toArray).run P w = .ok v w ∧ AVR E r v := by
  unfold maxA at h
  split at h
  · obtain ⟨v, vs', rfl, hx, hv⟩ := hv
    obtain ⟨e, _⟩ := hx
    injection e with e
    subst e
    obtain ⟨v', h1, h2⟩ := maxI_run (P := P) hv h w
    exact ⟨v', by simpa [Builtin.max_] using h1, h2⟩
  · cases h

theorem minA_run {E : Env} {xs : List AV} {vs : List Value} {r : AV} (hv : VasR E xs vs) (h : minA xs = some r) (w : World) {tys : Array TypeId} {ty : TypeId} : ∃ v, (Builtin.min_ tys ty vs.toArray).run P w = .ok v w ∧ AVR E r v := by
  unfold minA at h
  split at h
  · obtain ⟨v, vs', rfl, hx, hv⟩ := hv
    obtain ⟨e, _⟩ := hx
    injection e with e
    subst e
    obtain ⟨v', h1, h2⟩ := minI_run (P := P) hv h w
    exact ⟨v', by simpa [Builtin.min_] using h1, h2⟩
  · cases h

theorem dstep_sound (hT : TabOk P T) (hP : SpecsOk P T) {E : Env} (hH : HeapOk E) {a : Act} {ev : Operand → AV} (hev : ∀ x, AVR E (ev x) (a.eval x)) {look : Nat → Option Blk} (hl : ∀ b x, look b = some x → E.H b = some x) {nm : Nat} {o : Oper} {r : Res}
    (h : dstep T ev look nm o = some r) (hp : ∀ p, r.pre = some p → p) (hnm : ∀ k, k < r.add.length → ¬ E.U (nm + k)) {next : Act → World → Prop} {Q : Exit → Act → World → Prop}
    (hn : ∀ E' v, Step E r nm E' → AVR E' r.val v → next (a.put o.dst v) E'.w) : o.wp P a E.w next Q := by
  obtain ⟨dst, op, type, pos, after, guard⟩ := o
  -- a value, and nothing else
  have val : ∀ v, (execOp a.eval ⟨dst, op, type, pos, after, guard⟩).run P E.w = .ok (.value v) E.w → AVR E r.val v → r.add = [] → r.set = [] → Oper.wp P ⟨dst, op, type, pos, after, guard⟩ a E.w next Q := fun v hr hv h1 h2 => op_value hr (hn E v (Step.same hH h1 h2) hv)
  have vl : ∀ (s : Sem Value) v w', s.run P E.w = .ok v w' → (do pure (.value (← s)) : Sem Next).run P E.w = .ok (.value v) w' := fun s v w' hs => by simp [hs]
  cases op <;> simp only [dstep] at h
  case move x =>
    have hx := hev x
    split at h
    · cases h
    · rename_i y hy
      simp only [ok1, Option.some.injEq] at h
      subst h
      exact val _ rfl hx rfl rfl
  case assign x =>
    have hx := hev x
    split at h
    · cases h
    · rename_i y hy
      simp only [ok1, Option.some.injEq] at h
      subst h
      exact val _ rfl hx rfl rfl
  case pick c x y =>
    obtain ⟨v, h1, h2, h3, h4⟩ := pick_run (P := P) (hev c) (hev x) (hev y) h E.w
    exact val v (by simpa [execOp] using h1) h2 h3 h4
  case alloc t =>
    cases ht : T.ty t with
    | none => rw [ht] at h; cases h
    | some ti =>
      rw [ht] at h
      simp only [Option.some.injEq] at h
      subst h
      obtain ⟨E', h1, h2, h3⟩ := alloc_run hT hH ht (nm := nm) (by simpa using hnm 0 (by simp))
      exact op_value (vl _ _ _ h1) (hn E' _ h2 h3)
  case box t x =>
    have hx := hev x
    split at h
    · rename_i y hy
      simp only [Option.some.injEq] at h
      subst h
      rw [hy] at hx
      obtain ⟨E', h1, h2, h3⟩ := box_run (P := P) hH t (x := y) hx (nm := nm) (by simpa using hnm 0 (by simp))
      exact op_value (vl _ _ _ h1) (hn E' _ h2 h3)
    · cases h
  case build t ps =>
    obtain ⟨v, h1, h2, h3, h4, _⟩ := build_run (E := E) (vs := ps.map fun (i, x) => (i, a.eval x)) hT (by simpa using ps_rel hev ps.toList) h
    exact val v (vl _ _ _ h1) h2 h3 h4
  case buildSlice t n ps =>
    have hnew : r.add.length = 1 := by
      unfold buildSliceA at h
      split at h
      · split at h
        · split at h
          · simp only [Option.some.injEq] at h; subst h; rfl
          · split at h
            · simp only [Option.some.injEq] at h; subst h; rfl
            · cases h
        · cases h
      · unfold ptrSliceA at h
        repeat' split at h
        all_goals first
          | (simp only [Option.some.injEq] at h; subst h; rfl)
          | cases h
    obtain ⟨v, E', h1, h2, h3⟩ := buildSlice_run (vs := ps.map fun (i, x) => (i, a.eval x)) hT hH hl (by simpa using hnm 0 (by omega)) (by simpa using ps_rel hev ps.toList) h
    exact op_value (vl _ _ _ h1) (hn E' _ h2 h3)
  case load t x =>
    obtain ⟨v, h1, h2, h3, h4⟩ := load_run hT hH hl (hev x) h hp
    exact val v (vl _ _ _ h1) h2 h3 h4
  case store t x y =>
    obtain ⟨E', h1, h2, h3⟩ := store_run (nm := nm) hT hH hl (hev x) (hev y) h hp
    exact op_skip (by simp [execOp, h1]) (hn E' _ h2 (by rw [h3]; trivial))
  case nilCheck x =>
    have hx := hev x
    split at h
    · rename_i b j hy
      split at h
      · rename_i cs hb
        simp only [ok1, Option.some.injEq] at h
        subst h
        rw [hy] at hx
        have hbx := hl _ _ hb
        have hx0 := hx
        obtain ⟨v, ⟨e, _⟩, hU, hh⟩ := hx
        injection e with e
        obtain ⟨g, hr, hv⟩ := hh _ hbx
        refine val (a.eval x) ?_ hx0 rfl rfl
        rw [e, hv]
        simp only [execOp, e, hv, pt]
        rfl
      · cases h
    · rename_i f cs hy
      simp only [ok1, Option.some.injEq] at h
      subst h
      rw [hy] at hx
      have hx0 := hx
      obtain ⟨caps, e, _⟩ := hx
      injection e with e
      refine val (a.eval x) ?_ hx0 rfl rfl
      rw [e]
      simp only [execOp, e]
      rfl
    · cases h
  case binOp op t x y ty =>
    obtain ⟨v, h1, h2, h3, h4⟩ := bin_run (P := P) hT hH (hev x) (hev y) h hp x y E.w
    exact val v (vl _ _ _ h1) h2 h3 h4
  case unOp op t x =>
    obtain ⟨v, h1, h2, h3, h4, _⟩ := un_run (P := P) (hev x) h E.w
    exact val v (vl _ _ _ h1) h2 h3 h4
  case convert s d x =>
    have hx := hev x
    split at h
    · rename_i ts k n hs hd hy
      simp only [ok1, Option.some.injEq] at h
      subst h
      rw [hy] at hx
      obtain ⟨e, _⟩ := hx
      injection e with e
      have hd' := (hT.ty d _ hd).und
      simp only [DescOk] at hd'
      obtain ⟨ds, hds⟩ := und_some hT hs
      exact val _ (vl _ _ _ (by rw [e]; simp [convert, run_underlying hds, run_underlying hd', Conv.intToInt])) ⟨rfl, rfl⟩ rfl rfl
    · rename_i ts t hs hd hy
      simp only [ok1, Option.some.injEq] at h
      subst h
      rw [hy] at hx
      obtain ⟨e, _⟩ := hx
      injection e with e
      have hd' := (hT.ty d _ hd).und
      simp only [DescOk] at hd'
      obtain ⟨ds, hds⟩ := und_some hT hs
      exact val (.string t) (vl _ _ _ (by rw [e]; simp [convert, run_underlying hds, run_underlying hd'])) ⟨rfl, rfl⟩ rfl rfl
    · rename_i c hni hs hd hy
      split at h
      · rename_i he
        split at h
        · rename_i l hsl
          simp only [ok1, Option.some.injEq] at h
          subst h
          rw [hy] at hx
          have hd' := (hT.ty d _ hd).und
          simp only [DescOk] at hd'
          have hs' := (hT.ty s _ hs).und
          simp only [DescOk] at hs'
          have he' := (hT.ty _ _ he).und
          simp only [DescOk] at he'
          have hsl := slAs_rel hH hl hsl hx
          refine val _ (vl _ _ _ ?_) ⟨rfl, rfl⟩ rfl rfl
          have hb := bytes_run (P := P) (w := E.w) hsl
          obtain ⟨ad, cap, e, _⟩ := hsl
          rw [e] at hb ⊢
          rw [run_convert_bytes_string E.w s d _ _ _ _ hs' he' hd', hb]
        · cases h
      · cases h
    · rename_i t hs hd hy
      split at h
      · rename_i he
        simp only [ok1, Option.some.injEq] at h
        subst h
        rw [hy] at hx
        obtain ⟨e, _⟩ := hx
        injection e with e
        have hd' := (hT.ty d _ hd).und
        simp only [DescOk] at hd'
        have hs' := (hT.ty s _ hs).und
        simp only [DescOk] at hs'
        have he' := (hT.ty _ _ he).und
        simp only [DescOk] at he'
        obtain ⟨v, E', h1, h2, h3⟩ := strBytes_run (P := P) (nm := nm) hH t hs' hd' he'
        exact op_value (vl _ _ _ (by rw [e]; exact h1)) (hn E' _ h2 h3)
      · cases h
    · cases h
  case makeMap t rv =>
    cases rv with
    | some _ => cases h
    | none =>
      simp only at h
      split at h
      · rename_i ka kt vt hi
        simp only [Option.some.injEq] at h
        subst h
        obtain ⟨E', h1, h2, h3⟩ := makeMap_run (P := P) hH (t := t) (ka := ka) (kt := kt) (vt := vt) (nm := nm) (by simpa using hnm 0 (by simp))
        exact op_value (vl _ _ _ h1) (hn E' _ h2 h3)
      · cases h
  case mapUpdate t m k x =>
    obtain ⟨E', h1, h2, h3⟩ := mapPut_run (nm := nm) hT hH hl (hev m) (hev k) (hev x) h
    exact op_skip (by simp [execOp, h1]) (hn E' _ h2 (by rw [h3]; trivial))
  case insert t m k x =>
    obtain ⟨E', h1, h2, h3⟩ := mapPut_run (nm := nm) hT hH hl (hev m) (hev k) (hev x) h
    exact op_skip (by simp [execOp, h1]) (hn E' _ h2 (by rw [h3]; trivial))
  case lookup t m k ok =>
    obtain ⟨v, h1, h2, h3, h4⟩ := lookup_run hT hH hl (hev m) (hev k) h
    exact val v (vl _ _ _ h1) h2 h3 h4
  case makeInterface t x =>
    have hx := hev x
    split at h
    · rename_i et ht
      cases hb : asPtr0 (ev x) with
      | none => rw [hb] at h; cases h
      | some b =>
        rw [hb] at h
        simp only [ok1, Option.some.injEq] at h
        subst h
        rw [asPtr0_eq hb] at hx
        obtain ⟨v, ⟨e, h1⟩, hU, hh⟩ := hx
        injection e with e
        have hu := (hT.ty t _ ht).und
        simp only [DescOk] at hu
        refine val (.iface t (a.eval x)) (vl _ _ _ (by simp [Instr.makeInterface, run_underlying hu])) ⟨v, ⟨by rw [e], h1⟩, hU, hh⟩ rfl rfl
    · cases h
  case makeFunc f fs cs =>
    cases f with
    | func f =>
      simp only at h
      split at h
      · rename_i hz
        have hz := Nat.eq_of_beq_eq_true hz
        have hfs : fs = #[] := Array.eq_empty_of_size_eq_zero hz
        subst hfs
        cases hm : mapO (fun x => asPtr0 (ev x)) cs.toList with
        | none => rw [hm] at h; cases h
        | some bs =>
          rw [hm] at h
          simp only [ok1, Option.some.injEq] at h
          subst h
          obtain ⟨hlen, hget⟩ := mapO_some hm
          refine val (.func (.func f) #[] (cs.map a.eval)) (by simp [execOp, Instr.makeFunc]) ⟨cs.map a.eval, rfl, by simpa using hlen.symm, fun i b hb => ?_⟩ rfl rfl
          have hi : i < cs.toList.length := by rw [← hlen]; exact (List.getElem?_eq_some_iff.1 hb).1
          obtain ⟨y, h1, h2⟩ := hget i cs.toList[i] (List.getElem?_eq_getElem hi)
          rw [hb] at h2
          injection h2 with h2
          subst h2
          have hx := hev cs.toList[i]
          rw [asPtr0_eq h1] at hx
          obtain ⟨v, ⟨e, h3⟩, hU, hh⟩ := hx
          injection e with e
          refine ⟨v, ?_, h3, hU, hh⟩
          have hi' : i < cs.size := by simpa using hi
          simp at e
          simp [hi', e]
      · cases h
    | _ => cases h
  case makeSlice t l c =>
    have hnew : r.add.length = 1 := by
      unfold makeSliceA at h
      split at h
      · simp only [Option.some.injEq] at h; subst h; rfl
      · cases h
    obtain ⟨v, E', h1, h2, h3⟩ := makeSlice_run hT hH (by simpa using hnm 0 (by omega)) (hev l) (hev c) h hp
    exact op_value (vl _ _ _ h1) (hn E' _ h2 h3)
  case slice t x lo hi mx =>
    obtain ⟨v, h1, h2, h3, h4⟩ := slice_run hT hH hl (hev x) (opt_rel hev lo) (opt_rel hev hi) (opt_rel hev mx) h hp
    exact val v (vl _ _ _ h1) h2 h3 h4
  case fieldAddr s x f =>
    obtain ⟨v, h1, h2, h3, h4⟩ := fieldAddr_run hT hl (hev x) h hp
    exact val v (vl _ _ _ h1) h2 h3 h4
  case field t x f =>
    obtain ⟨v, h1, h2, h3, h4, _⟩ := field_run (P := P) hT (hev x) h
    exact val v (vl _ _ _ h1) h2 h3 h4
  case indexAddr t x i =>
    obtain ⟨v, h1, h2, h3, h4⟩ := indexAddr_run hT hH hl (hev x) (hev i) h hp
    exact val v (vl _ _ _ h1) h2 h3 h4
  case index t x i =>
    obtain ⟨v, h1, h2, h3, h4⟩ := index_run (P := P) hT (hev x) (hev i) h hp
    exact val v (vl _ _ _ h1) h2 h3 h4
  case extract t i =>
    have hx := hev t
    split at h
    · rename_i l hy
      cases hi : l[i]? with
      | none => rw [hi] at h; cases h
      | some y =>
        rw [hi] at h
        simp only [ok1, Option.some.injEq] at h
        subst h
        rw [hy] at hx
        obtain ⟨vs, e, hvs⟩ := hx
        obtain ⟨v, h1, h2⟩ := VsR.get hvs hi
        refine val v (vl _ _ _ (by rw [e]; simp [Instr.extract]; rw [← Array.getElem?_toList, h1]; rfl)) h2 rfl rfl
    · cases h
  case call c =>
    obtain ⟨callee, args, argTypes⟩ := c
    cases callee with
    | builtin b =>
      simp only at h
      have hargs := evs_rel (E := E) hev args.toList
      unfold builtinA at h
      split at h
      · -- len
        rename_i x t tl hal htl
        cases hn' : lenA T look t x with
        | none => rw [hn'] at h; cases h
        | some n =>
          rw [hn'] at h
          simp only [ok1, Option.some.injEq] at h
          subst h
          rw [hal] at hargs
          obtain ⟨v, r', e, hx, hr'⟩ := hargs
          simp only [VasR] at hr'
          subst hr'
          refine val (.int .i64 n) ?_ ⟨rfl, rfl⟩ rfl rfl
          have hav : args.map a.eval = #[v] := by apply Array.ext'; simpa using e
          have ht0 : argTypes[0]? = some t := by rw [← Array.getElem?_toList, htl]; rfl
          have hlen := len_run (P := P) hT hH hl hx hn' (ty := type) ht0
          simp [execOp, resolve, hav, invoke, builtin, hlen]
      · rename_i hal htl
        cases hm : maxA (args.toList.map ev) with
        | none => rw [hm] at h; cases h
        | some v =>
          rw [hm] at h
          simp only [ok1, Option.some.injEq] at h
          subst h
          obtain ⟨v', h1, h2⟩ := maxA_run (P := P) hargs hm E.w (tys := argTypes) (ty := type)
          refine val v' ?_ h2 rfl rfl
          have hav : args.map a.eval = (args.toList.map a.eval).toArray := by apply Array.ext'; simp
          simp only [execOp, resolve, hav]
          simp [invoke, builtin, h1]
      · rename_i hal htl
        cases hm : minA (args.toList.map ev) with
        | none => rw [hm] at h; cases h
        | some v =>
          rw [hm] at h
          simp only [ok1, Option.some.injEq] at h
          subst h
          obtain ⟨v', h1, h2⟩ := minA_run (P := P) hargs hm E.w (tys := argTypes) (ty := type)
          refine val v' ?_ h2 rfl rfl
          have hav : args.map a.eval = (args.toList.map a.eval).toArray := by apply Array.ext'; simp
          simp only [execOp, resolve, hav]
          simp [invoke, builtin, h1]
      · -- append
        rename_i s x t t' hal htl
        rw [hal] at hargs
        obtain ⟨vs, r', e, hs, vx, r'', e', hx, hr''⟩ := hargs
        simp only [VasR] at hr''
        subst hr'' e'
        have hav : args.map a.eval = #[vs, vx] := by apply Array.ext'; simpa using e
        have hat : argTypes = #[t, t'] := by apply Array.ext'; simpa using htl
        have hnew : r.add.length = 1 := by
          unfold appendA at h
          split at h
          · split at h
            · cases h
            · split at h
              · split at h
                · simp only [Option.some.injEq] at h; subst h; rfl
                · split at h
                  · split at h
                    · simp only [Option.some.injEq] at h; subst h; rfl
                    · cases h
                  · cases h
                · cases h
              · cases h
          · cases h
        obtain ⟨v, E', h1, h2, h3⟩ := append_run (ty := type) hT hH hl (by simpa using hnm 0 (by omega)) hs hx h hp
        refine op_value ?_ (hn E' _ h2 h3)
        simp [execOp, resolve, hav, hat, invoke, builtin, h1]
      · -- copy
        rename_i s x t tl hal htl
        rw [hal] at hargs
        obtain ⟨vs, r', e, hs, vx, r'', e', hx, hr''⟩ := hargs
        simp only [VasR] at hr''
        subst hr'' e'
        have hav : args.map a.eval = #[vs, vx] := by apply Array.ext'; simpa using e
        have ht0 : argTypes[0]? = some t := by rw [← Array.getElem?_toList, htl]; rfl
        obtain ⟨v, E', h1, h2, h3⟩ := copy_run (ty := type) (nm := nm) hT hH hl hs hx ht0 h hp
        refine op_value ?_ (hn E' _ h2 h3)
        simp [execOp, resolve, hav, invoke, builtin, h1]
      · cases h
    | value f =>
      simp only at h
      have hf := hev f
      split at h
      · rename_i g caps hy
        rw [hy] at hf
        obtain ⟨cv, e, hcl, hcap⟩ := hf
        injection e with e
        have hargs : VasR E (args.toList.map ev ++ caps.map fun b => .cell (.ptr b 0)) (args.map a.eval ++ cv).toList := by
          simpa using (evs_rel (E := E) hev args.toList).append (caps_rel caps cv.toList (by simpa using hcl) (fun i b hb => by simpa using hcap i b hb))
        obtain ⟨hent, hcall⟩ := callFn_sound hP hH hl hargs h hp hnm
        unfold Oper.wp
        have hrun : (execOp a.eval ⟨dst, .call ⟨.value f, args, argTypes⟩, type, pos, after, guard⟩).run P E.w = .ok (.enter g (args.map a.eval ++ cv)) E.w := by
          simp [execOp, resolve, e, Deferred.ofValue, invoke, callFunc_run hent]
        rw [hrun]
        refine hcall.mono ?_
        rintro e' w' ⟨v, E', rfl, rfl, h2, h3⟩
        exact hn E' v h2 h3
      · cases h
    | invoke rv name =>
      simp only at h
      have hf := hev rv
      split at h
      · rename_i t b hy
        rw [hy] at hf
        obtain ⟨v, ⟨e, h1⟩, hU, hh⟩ := hf
        injection e with e
        cases hm : T.meth t name with
        | none => rw [hm] at h; cases h
        | some g =>
          rw [hm] at h
          simp only at h
          have hmeth := hT.meth t name g hm v E.w
          have hargs : VasR E (.cell (.ptr b 0) :: args.toList.map ev) (#[v] ++ args.map a.eval).toList := by
            refine ⟨v, args.toList.map a.eval, by simp, ⟨v, ⟨rfl, h1⟩, hU, hh⟩, evs_rel hev args.toList⟩
          obtain ⟨hent, hcall⟩ := callFn_sound hP hH hl hargs h hp hnm
          unfold Oper.wp
          have hrun : (execOp a.eval ⟨dst, .call ⟨.invoke rv name, args, argTypes⟩, type, pos, after, guard⟩).run P E.w = .ok (.enter g (#[v] ++ args.map a.eval)) E.w := by
            have h0 : (#[Value.iface t v] ++ args.map a.eval)[0]? = some (.iface t v) := by rw [← Array.getElem?_toList]; simp
            have h2 : (#[Value.iface t v] ++ args.map a.eval).extract 1 (#[Value.iface t v] ++ args.map a.eval).size = args.map a.eval := by apply Array.ext'; simp; exact List.take_of_length_le (by simp)
            simp only [execOp, resolve, e, Sem.run_bind, Sem.run_pure, Result.andThen_ok, invoke, h0, h2, callMethod]
            simp [hmeth, callFunc_run hent]
          rw [hrun]
          refine hcall.mono ?_
          rintro e' w' ⟨v', E', rfl, rfl, h2, h3⟩
          exact hn E' v' h2 h3
      · cases h
  all_goals cases h

end
end Go.Fw

/- Regions in the order of the text, code, loops, functions. -/
namespace Go.Fw
set_option linter.unusedVariables false
set_option linter.unusedSimpArgs false

structure Sim (st : St) (E : Env) (a : Act) : Prop where
  defers : a.defers = []
  len : a.tmps.size = st.tmps.length
  tmp : ∀ (i : Nat) x, st.tmps[i]? = some x → ∃ v, a.tmps[i]? = some v ∧ AVR E x v
  ok : HeapOk E
  H : ∀ b, E.H b = st.look b
  U : ∀ b, E.U b → b < st.heap.length

/-- what has become of the world since the call began -/
structure Fr (E0 E : Env) : Prop where
  fr : FrameOk (frameOf E0) E
  ext : Ext E0 E

section
variable {P : Program} {T : Tab}

theorem constV_rel (E : Env) (v : Value) : AVR E (constV v) v := by
  unfold constV
  split
  · rename_i cs
    split
    · rename_i h
      refine ⟨cs, rfl, ?_⟩
      have h : ∀ u ∈ cs.toList, u.oneCell' = true := fun u hu => List.all_eq_true.1 h u hu
      generalize cs.toList = l at h
      induction l with
      | nil => exact rfl
      | cons u l ih => exact ⟨[u], l, rfl, ⟨rfl, h u (by simp)⟩, ih fun x hx => h x (by simp [hx])⟩
    · trivial
  · trivial
  · rename_i h1 h2
    refine ⟨rfl, ?_⟩
    cases v <;> first | rfl | exact absurd rfl (h1 _) | exact absurd rfl (h2 _)

theorem Sim.at_ {st : St} {E : Env} {a : Act} (h : Sim st E a) (t : Tmp) : AVR E (st.tmp t) (a.tmps.getD t undef) := by
  unfold St.tmp
  cases hx : st.tmps[t]? with
  | none => simp [List.getD, hx]; trivial
  | some x =>
    obtain ⟨v, h1, h2⟩ := h.tmp t x hx
    simp [List.getD, hx, h1]
    exact h2

theorem Sim.eval {st : St} {E : Env} {a : Act} (h : Sim st E a) (x : Operand) : AVR E (st.eval x) (a.eval x) := by
  cases x with
  | tmp t => exact h.at_ t
  | const v => exact constV_rel E v
  | func f => exact ⟨#[], rfl, rfl, fun i b hb => by simp at hb⟩
  | global g => trivial

theorem look_setAt : ∀ (h : List (Option Blk)) (n : Nat) (o : Option Blk) (b : Nat), (match (setAt h n o)[b]? with | some x => x | none => none) = if b = n then o else (match h[b]? with | some x => x | none => none)
  | [], 0, o, b => by
    cases b with
    | zero => simp [setAt]
    | succ b => simp [setAt]
  | [], n + 1, o, b => by
    cases b with
    | zero => simp [setAt]
    | succ b => simpa [setAt] using look_setAt [] n o b
  | x :: r, 0, o, b => by
    cases b with
    | zero => simp [setAt]
    | succ b => simp [setAt]
  | x :: r, n + 1, o, b => by
    cases b with
    | zero => simp [setAt]
    | succ b => simpa [setAt] using look_setAt r n o b

theorem len_setAt : ∀ (h : List (Option Blk)) (n : Nat) (o : Option Blk), (setAt h n o).length = max h.length (n + 1)
  | [], 0, o => by simp [setAt]
  | [], n + 1, o => by simp [setAt, len_setAt [] n o]
  | x :: r, 0, o => by simp [setAt]
  | x :: r, n + 1, o => by simp [setAt, len_setAt r n o]

theorem look_setAll : ∀ (l : List (Nat × Option Blk)) (h : List (Option Blk)) (b : Nat), (match (setAll h l)[b]? with | some x => x | none => none) = setF (fun b => match h[b]? with | some x => x | none => none) l b
  | [], h, b => rfl
  | (n, o) :: l, h, b => by
    rw [setAll, look_setAll l, setF]
    congr 1
    funext c
    exact look_setAt h n o c

theorem len_setAll : ∀ (l : List (Nat × Option Blk)) (h : List (Option Blk)), h.length ≤ (setAll h l).length
  | [], h => Nat.le_refl _
  | (n, o) :: l, h => by
    rw [setAll]
    have := len_setAll l (setAt h n o)
    rw [len_setAt] at this
    omega

theorem look_addAll : ∀ (l : List Blk) (h : List (Option Blk)) (nm b : Nat), (match (addAll h nm l)[b]? with | some x => x | none => none) = addF (fun b => match h[b]? with | some x => x | none => none) nm l b
  | [], h, nm, b => rfl
  | x :: l, h, nm, b => by
    rw [addAll, look_addAll l, addF]
    congr 1
    funext c
    exact look_setAt h nm (some x) c

theorem len_addAll : ∀ (l : List Blk) (h : List (Option Blk)) (nm : Nat), h.length ≤ (addAll h nm l).length ∧ (0 < l.length → nm + l.length ≤ (addAll h nm l).length)
  | [], h, nm => ⟨Nat.le_refl _, fun h => by simp at h⟩
  | x :: l, h, nm => by
    rw [addAll]
    obtain ⟨h1, h2⟩ := len_addAll l (setAt h nm (some x)) (nm + 1)
    rw [len_setAt] at h1
    refine ⟨by omega, fun _ => ?_⟩
    simp only [List.length_cons]
    by_cases hl : 0 < l.length
    · have := h2 hl; omega
    · have : l.length = 0 := by omega
      omega

theorem look_act (st : St) (nm : Nat) (r : Res) (b : Nat) : (st.act nm r).look b = addF (setF st.look r.set) nm r.add b := by
  show (match (addAll (setAll st.heap r.set) nm r.add)[b]? with | some x => x | none => none) = _
  refine (look_addAll _ _ _ _).trans ?_
  congr 1
  funext c
  exact look_setAll r.set st.heap c

theorem Sim.step {st : St} {E E' : Env} {a : Act} {nm : Nat} {r : Res} {v : Value} {dst : Option Tmp} (h : Sim st E a) (hs : Step E r nm E') (hv : AVR E' r.val v) : Sim ((st.act nm r).put dst r.val) E' (a.put dst v) := by
  have hlook : ∀ b, ((st.act nm r).put dst r.val).look b = (st.act nm r).look b := fun b => by cases dst <;> rfl
  have hheap : ((st.act nm r).put dst r.val).heap = (st.act nm r).heap := by cases dst <;> rfl
  refine ⟨by cases dst <;> exact h.defers, ?_, fun i x hx => ?_, hs.ok, fun b => ?_, fun b hb => ?_⟩
  · cases dst with
    | none => exact h.len
    | some d => simp [Act.put, St.put, St.act, h.len]
  · cases dst with
    | none =>
      obtain ⟨u, h1, h2⟩ := h.tmp i x hx
      exact ⟨u, h1, h2.ext hs.ext⟩
    | some d =>
      simp only [St.put, St.act, List.getElem?_set] at hx
      by_cases hd : d = i
      · subst hd
        simp only [if_true] at hx
        split at hx
        · rename_i hlt
          injection hx with hx
          subst hx
          exact ⟨v, by simp [Act.put, h.len, hlt], hv⟩
        · cases hx
      · rw [if_neg hd] at hx
        obtain ⟨u, h1, h2⟩ := h.tmp i x hx
        exact ⟨u, by simp [Act.put, Array.getElem?_setIfInBounds_ne hd, h1], h2.ext hs.ext⟩
  · rw [hlook, hs.H, look_act]
    congr 1
    funext c
    congr 1
    funext d
    exact h.H d
  · rw [hheap]
    have h1 := len_setAll r.set st.heap
    obtain ⟨h2, h3⟩ := len_addAll r.add (setAll st.heap r.set) nm
    have h4 : (st.act nm r).heap = addAll (setAll st.heap r.set) nm r.add := rfl
    rw [h4]
    rcases (hs.U b).1 hb with h5 | ⟨h5, h6⟩
    · have := h.U b h5
      omega
    · have := h3 (by omega)
      omega

theorem Fr.step {E0 E E' : Env} {nm : Nat} {r : Res} (h : Fr E0 E) (hs : Step E r nm E') : Fr E0 E' := ⟨hs.fr _ h.fr, h.ext.trans hs.ext⟩

theorem need_out {p : Option Prop} {q : Prop} (h : need p q) : (∀ x, p = some x → x) ∧ q := by
  cases p with
  | none => exact ⟨fun x hx => (by cases hx), h⟩
  | some p =>
    have := Need.out h
    exact ⟨fun x hx => by injection hx with hx; subst hx; exact this.1, this.2⟩

theorem nilTest_run (hT : TabOk P T) {o : Oper} {st : St} {E : Env} {a : Act} (hs : Sim st E a) {eq : Bool} {A B : Prop} (h : nilTest T st o = some (eq, A, B)) :
    ∃ nil : Bool, (execOp a.eval o).run P E.w = .ok (.value (.bool (if nil then eq else !eq))) E.w ∧ (nil = true → A) ∧ (nil = false → B) := by
  have key : ∀ {op : BinOp} {t e : TypeId} {x : Operand} {v : Value} {nil : Bool}, (op = .eql ∨ op = .neq) → P.underlying t = some (.slice e) → a.eval x = v → (∃ ad n c, v = .slice ad n c ∧ ad.isNone = nil) →
      (do eqGuard op t x (.const (.slice none 0 0)) v (.slice none 0 0); binOp op t v (.slice none 0 0) : Sem Value).run P E.w = .ok (.bool (if nil then decide (op = .eql) else !decide (op = .eql))) E.w := by
    rintro op t e x v nil hop hu hx ⟨ad, n, c, rfl, rfl⟩
    rcases hop with rfl | rfl
    · have h1 : (Op.equal t (.slice ad n c) (.slice none 0 0)).run P E.w = .ok ad.isNone E.w := run_equal_slice_nil E.w t e ad n c hu
      simp [eqGuard, binOp, h1]
      cases ad <;> rfl
    · have h1 : (binOp .neq t (.slice ad n c) (.slice none 0 0)).run P E.w = .ok (.bool (!ad.isNone)) E.w := run_neq_slice_nil E.w t e ad n c hu
      simp [eqGuard, h1]
      cases ad <;> rfl
  have rel : ∀ {c : Cell} {t : Ty} {l : List (Den t)} {v : Value}, sliceOf st.look c = some ⟨t, l⟩ → CellR E c [v] → ∃ ad n cp, v = .slice ad n cp ∧ (ad.isNone = true → l.length = 0) := by
    intro c t l v h hc
    obtain ⟨ad, cap, e, _, h2⟩ := sliceOf_rel hs.ok (fun b x hb => (hs.H b).trans hb) h hc
    refine ⟨ad, _, cap, e, fun hn => ?_⟩
    cases l with
    | nil => rfl
    | cons y l =>
      obtain ⟨ad', _, he, _⟩ := h2 (by simp)
      rw [he] at hn; cases hn
  obtain ⟨dst, op, ty, pos, after, guard⟩ := o
  unfold nilTest at h
  simp only at h
  split at h
  · rename_i bop t x bty
    split at h
    · rename_i ti hti
      have hok := (hT.ty _ _ hti).und
      have fin : ∀ {bop : BinOp} {e : TypeId} {eq : Bool} {A B : Prop}, (bop = .eql ∨ bop = .neq) → decide (bop = .eql) = eq → P.underlying t = some (.slice e) →
          (match st.eval x with
            | .one (.c (.imm (.slice none 0 0))) => some (eq, True, False)
            | .one (.c c) => match sliceOf st.look c with | some ⟨_, l⟩ => some (eq, l.length = 0, True) | none => none
            | _ => none) = some (eq, A, B) →
          ∃ nil : Bool, (execOp a.eval { dst := dst, op := .binOp bop t x (.const (.slice none 0 0)) bty, type := ty, pos := pos, after := after, guard := guard }).run P E.w = .ok (.value (.bool (if nil then eq else !eq))) E.w ∧ (nil = true → A) ∧ (nil = false → B) := by
        intro bop e eq A B hop heq hu h
        have he := hs.eval x
        have vl : ∀ (s : Sem Value) v w', s.run P E.w = .ok v w' → (do pure (.value (← s)) : Sem Next).run P E.w = .ok (.value v) w' := fun s v w' hs => by simp [hs]
        split at h
        · rename_i hx
          rw [hx] at he
          obtain ⟨hv, _⟩ := he
          injection hv with hv
          simp only [Option.some.injEq, Prod.mk.injEq] at h
          obtain ⟨_, rfl, rfl⟩ := h
          refine ⟨true, ?_, fun _ => trivial, fun h => by cases h⟩
          have := key (nil := true) hop hu rfl ⟨none, 0, 0, hv, rfl⟩
          rw [heq] at this
          exact vl _ _ _ this
        · rename_i c _ hx
          rw [hx] at he
          split at h
          · rename_i t' l hsl
            simp only [Option.some.injEq, Prod.mk.injEq] at h
            obtain ⟨_, rfl, rfl⟩ := h
            obtain ⟨ad, n, cp, hv, hn⟩ := rel hsl he
            refine ⟨ad.isNone, ?_, hn, fun _ => trivial⟩
            have := key (nil := ad.isNone) hop hu rfl ⟨ad, n, cp, hv, rfl⟩
            rw [heq] at this
            exact vl _ _ _ this
          · cases h
        · cases h
      split at h
      · rename_i e hd
        rw [hd] at hok
        have hq : eq = true := by
          split at h
          · simp only [Option.some.injEq, Prod.mk.injEq] at h; exact h.1.symm
          · split at h
            · simp only [Option.some.injEq, Prod.mk.injEq] at h; exact h.1.symm
            · cases h
          · cases h
        subst hq
        exact fin (.inl rfl) rfl hok h
      · rename_i e hd
        rw [hd] at hok
        have hq : eq = false := by
          split at h
          · simp only [Option.some.injEq, Prod.mk.injEq] at h; exact h.1.symm
          · split at h
            · simp only [Option.some.injEq, Prod.mk.injEq] at h; exact h.1.symm
            · cases h
          · cases h
        subst hq
        exact fin (.inr rfl) rfl hok h
      · cases h
    · cases h
  · cases h

theorem Sim.putV {st : St} {E : Env} {a : Act} (h : Sim st E a) (dst : Option Tmp) {x : AV} {v : Value} (hx : AVR E x v) : Sim (st.put dst x) E (a.put dst v) := by
  cases dst with
  | none => exact h
  | some d =>
    refine ⟨h.defers, by simp [St.put, Act.put, h.len], fun i y hy => ?_, h.ok, h.H, h.U⟩
    simp only [St.put, List.getElem?_set] at hy
    by_cases hd : d = i
    · subst hd
      simp only [if_true] at hy
      split at hy
      · rename_i hlt
        injection hy with hy
        subst hy
        exact ⟨v, by simp [Act.put, h.len, hlt], hx⟩
      · cases hy
    · rw [if_neg hd] at hy
      obtain ⟨u, h1, h2⟩ := h.tmp i y hy
      exact ⟨u, by simp [Act.put, Array.getElem?_setIfInBounds_ne hd, h1], h2⟩

theorem doOp_sound (hT : TabOk P T) (hP : SpecsOk P T) {o : Oper} {nm : Nat} {st : St} {K : St → Prop} (h : doOp T o nm st K) {E0 E : Env} {a : Act} (hs : Sim st E a) (hf : Fr E0 E) (hnm : st.heap.length ≤ nm)
    {next : Act → World → Prop} {Q : Exit → Act → World → Prop} (hn : ∀ st' E' a', Sim st' E' a' → Fr E0 E' → K st' → next a' E'.w) : o.wp P a E.w next Q := by
  unfold doOp at h
  split at h
  · rename_i A B hnil
    obtain ⟨nil, hr, hA, hB⟩ := nilTest_run hT hs hnil
    cases h with
    | mk h1 h2 =>
      refine op_value hr ?_
      cases nil with
      | true => have := h1 (hA rfl); rw [fSt_eq] at this; exact hn _ E _ (hs.putV (x := .cell (bv _)) o.dst ⟨rfl, rfl⟩) hf this
      | false => have := h2 (hB rfl); rw [fSt_eq] at this; exact hn _ E _ (hs.putV (x := .cell (bv _)) o.dst ⟨rfl, rfl⟩) hf this
  · rename_i A B hnil
    obtain ⟨nil, hr, hA, hB⟩ := nilTest_run hT hs hnil
    cases h with
    | mk h1 h2 =>
      refine op_value hr ?_
      cases nil with
      | true => have := h1 (hA rfl); rw [fSt_eq] at this; exact hn _ E _ (hs.putV (x := .cell (bv _)) o.dst ⟨rfl, rfl⟩) hf this
      | false => have := h2 (hB rfl); rw [fSt_eq] at this; exact hn _ E _ (hs.putV (x := .cell (bv _)) o.dst ⟨rfl, rfl⟩) hf this
  split at h
  · rename_i r hr
    obtain ⟨hp, hk⟩ := need_out h
    rw [fRes_eq, fSt_eq] at hk
    exact dstep_sound hT hP hs.ok hs.eval (fun b x hb => (hs.H b).trans hb) hr hp (fun k _ hU => by have := hs.U _ hU; omega) fun E' v h1 h2 => hn _ E' _ (hs.step h1 h2) (hf.step h1) hk
  · exact h.elim

theorem Sim.same {st : St} {E : Env} {a : Act} (h : Sim st E a) {d : Tmp} {x : AV} (hx : AVR E x (a.tmps.getD d undef)) : Sim (st.put (some d) x) E a := by
  refine ⟨h.defers, by simp [St.put, h.len], fun i y hy => ?_, h.ok, h.H, h.U⟩
  simp only [St.put, List.getElem?_set] at hy
  by_cases hd : d = i
  · subst hd
    simp only [if_true] at hy
    split at hy
    · rename_i hlt
      injection hy with hy
      subst hy
      have hlt' : d < a.tmps.size := by rw [h.len]; exact hlt
      refine ⟨a.tmps[d], by simp [hlt'], ?_⟩
      simpa [hlt'] using hx
    · cases hy
  · rw [if_neg hd] at hy
    exact h.tmp i y hy

theorem Sim.dead {st : St} {E : Env} {a : Act} (h : Sim st E a) (dst : Option Tmp) : Sim (st.put dst .dead) E (a.put dst undef) := by
  cases dst with
  | none => exact h
  | some d =>
    refine ⟨h.defers, by simp [St.put, Act.put, h.len], fun i y hy => ?_, h.ok, h.H, h.U⟩
    simp only [St.put, List.getElem?_set] at hy
    by_cases hd : d = i
    · subst hd
      simp only [if_true] at hy
      split at hy
      · rename_i hlt
        injection hy with hy
        subst hy
        exact ⟨undef, by simp [Act.put, h.len, hlt], trivial⟩
      · cases hy
    · rw [if_neg hd] at hy
      obtain ⟨u, h1, h2⟩ := h.tmp i y hy
      exact ⟨u, by simp [Act.put, Array.getElem?_setIfInBounds_ne hd, h1], h2⟩

theorem Sim.skip {st : St} {E : Env} {a : Act} (h : Sim st E a) (dst : Option Tmp) : Sim (st.put dst (.tup [])) E (a.put dst undef) := by
  cases dst with
  | none => exact h
  | some d =>
    refine ⟨h.defers, by simp [St.put, Act.put, h.len], fun i y hy => ?_, h.ok, h.H, h.U⟩
    simp only [St.put, List.getElem?_set] at hy
    by_cases hd : d = i
    · subst hd
      simp only [if_true] at hy
      split at hy
      · rename_i hlt
        injection hy with hy
        subst hy
        exact ⟨undef, by simp [Act.put, h.len, hlt], ⟨#[], rfl, rfl⟩⟩
      · cases hy
    · rw [if_neg hd] at hy
      obtain ⟨u, h1, h2⟩ := h.tmp i y hy
      exact ⟨u, by simp [Act.put, Array.getElem?_setIfInBounds_ne hd, h1], h2⟩

/-- a guard's test, in both readings -/
theorem guard_rel {ops : Array Oper} {o : Oper} {d : Tmp} {want b : Bool} {st : St} {E : Env} {a : Act} (h : Sim st E a) (hg : guardTmp ops o = some (some (d, want))) (hb : st.tmp d = .cell (bv b)) :
    Region.wanted o (yielded ops a.tmps) = (b == want) ∧ a.tmps.getD d undef = .bool b := by
  have hrel := h.at_ d
  rw [hb] at hrel
  obtain ⟨e, _⟩ := hrel
  injection e with e
  refine ⟨?_, e⟩
  unfold guardTmp at hg
  unfold Region.wanted
  cases ho : o.guard with
  | none => rw [ho] at hg; cases hg
  | some jw =>
    obtain ⟨j, w⟩ := jw
    rw [ho] at hg
    simp only at hg
    cases hj : ops[j]? with
    | none => rw [hj] at hg; cases hg
    | some oj =>
      rw [hj] at hg
      simp only at hg
      cases hd : oj.dst with
      | none => rw [hd] at hg; cases hg
      | some d' =>
        rw [hd] at hg
        simp only [Option.some.injEq, Prod.mk.injEq] at hg
        obtain ⟨rfl, rfl⟩ := hg
        have hlt : d' < a.tmps.size := by
          rcases Nat.lt_or_ge d' a.tmps.size with h | h
          · exact h
          · rw [Array.getD_eq_getD_getElem?, Array.getElem?_eq_none h] at e
            simp [undef] at e
        have : a.tmps[d']? = some (.bool b) := by
          rw [Array.getElem?_eq_getElem hlt, ← e]
          simp [hlt]
        simp [yielded, hj, hd, this]

theorem guard_tup {ops : Array Oper} {o : Oper} {d : Tmp} {want : Bool} {st : St} {E : Env} {a : Act} (h : Sim st E a) (hg : guardTmp ops o = some (some (d, want))) (hb : st.tmp d = .tup []) :
    Region.wanted o (yielded ops a.tmps) = false := by
  have hrel := h.at_ d
  rw [hb] at hrel
  obtain ⟨vs, e, _⟩ := hrel
  unfold guardTmp at hg
  unfold Region.wanted
  cases ho : o.guard with
  | none => rw [ho] at hg; cases hg
  | some jw =>
    obtain ⟨j, w⟩ := jw
    rw [ho] at hg
    simp only at hg
    cases hj : ops[j]? with
    | none => rw [hj] at hg; cases hg
    | some oj =>
      rw [hj] at hg
      simp only at hg
      cases hd : oj.dst with
      | none => rw [hd] at hg; cases hg
      | some d' =>
        rw [hd] at hg
        simp only [Option.some.injEq, Prod.mk.injEq] at hg
        obtain ⟨rfl, rfl⟩ := hg
        have : yielded ops a.tmps j = none := by
          unfold yielded
          simp only [hj, Option.bind_some, hd]
          cases ht : a.tmps[d']? with
          | none => rfl
          | some x =>
            have : x = .tuple vs := by
              rw [← e, Array.getD_eq_getD_getElem?, ht]; rfl
            rw [this]
        show (yielded ops a.tmps j == some w) = false
        rw [this]
        rfl

theorem guard_none {ops : Array Oper} {o : Oper} (hg : guardTmp ops o = some none) (y : Nat → Option Bool) : Region.wanted o y = true := by
  unfold guardTmp at hg
  unfold Region.wanted
  cases ho : o.guard with
  | none => rfl
  | some jw =>
    obtain ⟨j, w⟩ := jw
    rw [ho] at hg
    simp only at hg
    split at hg
    · split at hg <;> simp at hg
    · cases hg

theorem exOps_sound (hT : TabOk P T) (hP : SpecsOk P T) {ops : Array Oper} {E0 : Env} {Q : Exit → Act → World → Prop} : ∀ (l : List Oper) (k : Nat) {st : St} {K : St → Prop} {E : Env} {a : Act}, ops.toList.drop k = l → exOps T ops l st K → Sim st E a → Fr E0 E →
    (∀ st' E' a', Sim st' E' a' → Fr E0 E' → K st' → Q .normal a' E'.w) → wpOps P ops Q (List.range' k l.length) a E.w
  | [], k, st, K, E, a, _, h, hs, hf, hq => by
    simp only [List.length_nil, List.range'_zero, wpOps]
    exact hq st E a hs hf h
  | o :: l, k, st, K, E, a, hd, h, hs, hf, hq => by
    have hk : ops[k]? = some o := by
      rw [← Array.getElem?_toList]
      have := congrArg (·[0]?) hd
      simpa using this
    have hd' : ops.toList.drop (k + 1) = l := by
      have := congrArg (List.drop 1) hd
      simpa using this
    have run : ∀ (st1 : St), Sim st1 E a → (withName lits st1.heap st1.heap.length fun nm => doOp T o nm st1 fun st' => exOps T ops l st' K) → o.wp P a E.w (wpOps P ops Q (List.range' (k + 1) l.length)) Q := by
      intro st1 hs1 h1
      obtain ⟨nm, h2, h1⟩ := named h1
      exact doOp_sound hT hP h1 hs1 hf h2 fun st' E' a' g1 g2 g3 => exOps_sound hT hP l (k + 1) hd' g3 g1 g2 hq
    rw [List.length_cons, List.range'_succ]
    simp only [wpOps, hk]
    unfold exOps at h
    split at h
    · exact h.elim
    · rename_i hg
      rw [if_pos (guard_none hg _)]
      exact .inl (run st hs h)
    · rename_i d want hg
      split at h
      · rename_i b hb
        obtain ⟨h1, h2⟩ := guard_rel hs hg hb
        rw [h1]
        cases b with
        | true =>
          simp only [Br] at h
          have hs' : Sim (st.put (some d) (.cell (bv true))) E a := hs.same (by rw [h2]; exact ⟨rfl, rfl⟩)
          cases want with
          | true => simp only [fSt_eq] at h; exact .inl (run _ hs' h)
          | false => simp only [fSt_eq] at h; exact exOps_sound hT hP l (k + 1) hd' h (hs'.skip o.dst) hf hq
        | false =>
          simp only [Br] at h
          have hs' : Sim (st.put (some d) (.cell (bv false))) E a := hs.same (by rw [h2]; exact ⟨rfl, rfl⟩)
          cases want with
          | false => simp only [fSt_eq] at h; exact .inl (run _ hs' h)
          | true => simp only [fSt_eq] at h; exact exOps_sound hT hP l (k + 1) hd' h (hs'.skip o.dst) hf hq
      · rename_i hb
        rw [guard_tup hs hg hb]
        simp only [fSt_eq] at h
        exact exOps_sound hT hP l (k + 1) hd' h (hs.skip o.dst) hf hq
      · exact h.elim

end
end Go.Fw

/- Code, loops, what a function leaves at its end. -/
namespace Go.Fw
set_option linter.unusedVariables false
set_option linter.unusedSimpArgs false

abbrev Cont := Exit → St → Prop

def Cov (K : Cont) (E0 : Env) (Q : Exit → Act → World → Prop) : Prop :=
  ∀ e st' E' a', K e st' → Sim st' E' a' → Fr E0 E' → Q e a' E'.w

/-- from this abstract state the code ends only as K says -/
def Does (P : Program) (m : Nat) (c : Code) (st : St) (K : Cont) : Prop :=
  ∀ E0 Q E a, (∀ b, E0.U b → b < m) → Sim st E a → Fr E0 E → Cov K E0 Q → c.wp P Q a E.w

inductive LoopG (P : Program) (m : Nat) (c : Code) (st : St) (K : Cont) : Prop where
  | mk : Does P m (.loop c) st K → LoopG P m c st K
inductive DrawG (P : Program) (m : Nat) (id : Nat) (ops : Array Oper) (st : St) (K : St → Prop) : Prop where
  | mk : Does P m (.region id ops true) st (fun e st' => e = .normal ∧ K st') → DrawG P m id ops st K

def putB (st : St) (c : Operand) (b : Bool) : St := match c with | .tmp t => st.put (some t) (.cell (bv b)) | _ => st

/-- THE EVALUATOR OF CODE: stops at loops and at regions whose order is drawn -/
def ex (P : Program) (T : Tab) (m : Nat) : Code → St → Cont → Prop
  | .skip, st, K => K .normal st
  | .label _, st, K => K .normal st
  | .seq x y, st, K => ex P T m x st fun e st' => match e with
    | .normal => ex P T m y st' K
    | .exit i => K (.exit i) st'
    | .ret => K .ret st'
    | _ => False
  | .cond c x y, st, K => match st.eval c with
    | .one (.c (.imm (.bool b))) => Br b (fSt (putB st c true) fun st => ex P T m x st K) (fSt (putB st c false) fun st => ex P T m y st K)
    | _ => False
  | .block id c, st, K => ex P T m c st fun e st' => match e with
    | .normal => K .normal st'
    | .exit i => (match Nat.beq i id with | true => K .normal st' | false => K (.exit i) st')
    | .ret => K .ret st'
    | _ => False
  | .loop c, st, K => LoopG P m c st K
  | .exit i, st, K => K (.exit i) st
  | .ret, st, K => K .ret st
  | .region id ops d, st, K => match d with
    | false => exOps T ops ops.toList st fun st' => K .normal st'
    | true => DrawG P m id ops st fun st' => K .normal st'
  | _, _, _ => False

section
variable {P : Program} {T : Tab}

theorem Sim.lit {st : St} {E : Env} {a : Act} (h : Sim st E a) {c : Operand} {b : Bool} (hc : st.eval c = .one (.c (.imm (.bool b)))) : Sim (putB st c b) E a ∧ a.eval c = .bool b := by
  have h1 := h.eval c
  rw [hc] at h1
  obtain ⟨h1, _⟩ := h1
  injection h1 with h1
  refine ⟨?_, h1⟩
  unfold putB
  split
  · rename_i t
    refine h.same ?_
    have : a.tmps.getD t undef = .bool b := h1
    rw [this]
    exact ⟨rfl, rfl⟩
  · exact h

theorem ex_sound (hT : TabOk P T) (hP : SpecsOk P T) {m : Nat} : ∀ (c : Code) {st : St} {K : Cont}, ex P T m c st K → Does P m c st K := by
  intro c
  induction c with
  | skip => intro st K h E0 Q E a hm hs hf hc; exact wp_skip (hc _ _ _ _ h hs hf)
  | label l => intro st K h E0 Q E a hm hs hf hc; exact wp_label (hc _ _ _ _ h hs hf)
  | exit i => intro st K h E0 Q E a hm hs hf hc; exact wp_exit (hc _ _ _ _ h hs hf)
  | ret => intro st K h E0 Q E a hm hs hf hc; exact wp_ret (hc _ _ _ _ h hs hf)
  | seq x y hx hy =>
    intro st K h E0 Q E a hm hs hf hc
    unfold ex at h
    refine wp_seq (hx h E0 _ E a hm hs hf ?_)
    intro e st' E' a' hk hs' hf'
    cases e with
    | normal => exact hy hk E0 Q E' a' hm hs' hf' hc
    | exit i => exact hc _ _ _ _ hk hs' hf'
    | ret => exact hc _ _ _ _ hk hs' hf'
    | goto l => exact hk.elim
    | panic ch => exact hk.elim
    | outgrown => exact hk.elim
  | cond c x y hx hy =>
    intro st K h E0 Q E a hm hs hf hc
    unfold ex at h
    split at h
    · rename_i b hb
      obtain ⟨hs', he⟩ := hs.lit hb
      rw [fSt_eq, fSt_eq] at h
      cases b with
      | true => exact wp_cond_true he (hx h E0 Q E a hm hs' hf hc)
      | false => exact wp_cond_false he (hy h E0 Q E a hm hs' hf hc)
    · exact h.elim
  | block id c hx =>
    intro st K h E0 Q E a hm hs hf hc
    unfold ex at h
    refine wp_block (hx h E0 _ E a hm hs hf ?_)
    intro e st' E' a' hk hs' hf'
    cases e with
    | normal => exact hc _ _ _ _ hk hs' hf'
    | exit i =>
      simp only [Exit.inBlock]
      simp only at hk
      split at hk
      · rename_i hb
        rw [if_pos (Nat.eq_of_beq_eq_true hb)]
        exact hc _ _ _ _ hk hs' hf'
      · rename_i hb
        rw [if_neg (fun e => by subst e; simp at hb)]
        exact hc _ _ _ _ hk hs' hf'
    | ret => exact hc _ _ _ _ hk hs' hf'
    | goto l => exact hk.elim
    | panic ch => exact hk.elim
    | outgrown => exact hk.elim
  | loop c hx => intro st K h; cases h with | mk h => exact h
  | region id ops d =>
    intro st K h E0 Q E a hm hs hf hc
    unfold ex at h
    cases d with
    | true =>
      cases h with
      | mk h =>
        refine h E0 Q E a hm hs hf ?_
        rintro e st' E' a' ⟨rfl, hk⟩ hs' hf'
        exact hc _ _ _ _ hk hs' hf'
    | false =>
      refine wp_region ?_
      rw [List.range_eq_range']
      have := exOps_sound (Q := Q) hT hP ops.toList 0 (by simp) h hs hf fun st' E' a' h1 h2 h3 => hc _ _ _ _ h3 h1 h2
      simpa using this
  | _ => intro st K h; exact h.elim

-- loops

theorem has_min {p : Nat → Prop} (h : ∃ n, p n) : ∃ n, p n ∧ ∀ k, p k → n ≤ k := by
  obtain ⟨n, hn⟩ := h
  induction n using Nat.strongRecOn with
  | _ n ih =>
    by_cases hs : ∃ k, k < n ∧ p k
    · obtain ⟨k, hk, hp⟩ := hs; exact ih k hk hp
    · exact ⟨n, hn, fun k hk => by rcases Nat.lt_or_ge k n with h | h; exact absurd ⟨k, h, hk⟩ hs; exact h⟩

open Classical in
noncomputable def least (p : Nat → Prop) : Nat := if h : ∃ n, p n then Classical.choose (has_min h) else 0
theorem least_at {p : Nat → Prop} (h : ∃ n, p n) : p (least p) := by
  unfold least; rw [dif_pos h]; exact (Classical.choose_spec (has_min h)).1
theorem least_le {p : Nat → Prop} {n : Nat} (h : p n) : least p ≤ n := by
  unfold least; rw [dif_pos ⟨n, h⟩]; exact (Classical.choose_spec (has_min ⟨n, h⟩)).2 n h

/-- the same world, seen less sharply -/
def Le (m : Nat) (st st' : St) : Prop :=
  ∀ E0 E a, (∀ b, E0.U b → b < m) → Sim st E a → Fr E0 E → ∃ E', E'.w = E.w ∧ Sim st' E' a ∧ Fr E0 E'

theorem Le.refl (m : Nat) (st : St) : Le m st st := fun E0 E a _ hs hf => ⟨E, rfl, hs, hf⟩

theorem loop_rule {X : Type} {m : Nat} {c : Code} {st : St} {K : Cont} (S : X → St) (I : X → Prop) (μ : X → Nat) (x0 : X) (h0 : Le m st (S x0)) (hI : I x0)
    (h : ∀ x, I x → Does P m c (S x) fun e st' => match e with | .normal => ∃ x', I x' ∧ μ x' < μ x ∧ Le m st' (S x') | e => K e st') : LoopG P m c st K := by
  refine .mk fun E0 Q E a hm hs hf hc => ?_
  let at_ : Act → World → Nat → Prop := fun a w n => ∃ x E, I x ∧ μ x = n ∧ E.w = w ∧ Sim (S x) E a ∧ Fr E0 E
  refine wp_loop (fun a w => ∃ n, at_ a w n) (fun a w => least (at_ a w)) ?_ ?_
  · obtain ⟨E', e, h1, h2⟩ := h0 E0 E a hm hs hf
    exact ⟨_, x0, E', hI, rfl, e, h1, h2⟩
  · intro a w hn
    obtain ⟨x, E, hIx, hμ, rfl, h1, h2⟩ := least_at hn
    refine h x hIx E0 _ E a hm h1 h2 ?_
    intro e st' E' a' hk hs' hf'
    cases e with
    | normal =>
      obtain ⟨x', hI', hlt, hle⟩ := hk
      obtain ⟨E'', e, h3, h4⟩ := hle E0 E' a' hm hs' hf'
      have hat : at_ a' E'.w (μ x') := ⟨x', E'', hI', rfl, e, h3, h4⟩
      refine ⟨⟨_, hat⟩, ?_⟩
      have := least_le hat
      show least (at_ a' E'.w) < least (at_ a E.w)
      rw [← hμ]
      omega
    | _ => exact hc _ _ _ _ hk hs' hf'

/-- at most so many rounds -/
def RD (P : Program) (m : Nat) (c : Code) (K : Cont) : Nat → St → Prop
  | 0, _ => False
  | n + 1, st => Does P m c st fun e st' => match e with | .normal => RD P m c K n st' | e => K e st'
inductive RoundG (P : Program) (m : Nat) (c : Code) (K : Cont) (n : Nat) (st : St) : Prop where
  | mk : RD P m c K n st → RoundG P m c K n st

theorem RD_rounds {m : Nat} {c : Code} {K : Cont} {E0 : Env} {Q : Exit → Act → World → Prop} (hm : ∀ b, E0.U b → b < m) (hc : Cov K E0 Q) : ∀ (n : Nat) {st : St} {E : Env} {a : Act}, RD P m c K n st → Sim st E a → Fr E0 E → Code.rounds P c Q n a E.w
  | 0, _, _, _, h, _, _ => h.elim
  | n + 1, st, E, a, h, hs, hf => by
    refine h E0 _ E a hm hs hf ?_
    intro e st' E' a' hk hs' hf'
    cases e with
    | normal => exact RD_rounds hm hc n hk hs' hf'
    | _ => exact hc _ _ _ _ hk hs' hf'

theorem loop_unroll {m : Nat} {c : Code} {st : St} {K : Cont} (n : Nat) (h : RoundG P m c K n st) : LoopG P m c st K :=
  .mk fun E0 Q E a hm hs hf hc => wp_loop_rounds n (by cases h with | mk h => exact RD_rounds hm hc n h hs hf)
theorem round_ {m n : Nat} {c : Code} {st : St} {K : Cont} (h : Does P m c st fun e st' => match e with | .normal => RoundG P m c K n st' | e => K e st') : RoundG P m c K (n + 1) st := by
  refine .mk fun E0 Q E a hm hs hf hc => h E0 Q E a hm hs hf ?_
  intro e st' E' a' hk hs' hf'
  refine hc e st' E' a' ?_ hs' hf'
  cases e with
  | normal => cases hk with | mk hk => exact hk
  | _ => exact hk

theorem Does.mono {m : Nat} {c : Code} {st : St} {K K' : Cont} (h : Does P m c st K) (hk : ∀ e st', K e st' → K' e st') : Does P m c st K' :=
  fun E0 Q E a hm hs hf hc => h E0 Q E a hm hs hf fun e st' E' a' h1 h2 h3 => hc e st' E' a' (hk _ _ h1) h2 h3

end
end Go.Fw

/- Weakening: blocks are frozen, dropped and named anew. -/
namespace Go.Fw
set_option linter.unusedVariables false
set_option linter.unusedSimpArgs false

def memN (b : Nat) : List Nat → Bool
  | [] => false
  | x :: r => match Nat.beq b x with | true => true | false => memN b r
theorem memN_true {b : Nat} : ∀ {l : List Nat}, memN b l = true → b ∈ l
  | [], h => by cases h
  | x :: r, h => by
    unfold memN at h
    split at h
    · rename_i hb; rw [Nat.eq_of_beq_eq_true hb]; simp
    · exact List.mem_cons_of_mem _ (memN_true h)
theorem memN_false {b : Nat} : ∀ {l : List Nat}, memN b l = false → b ∉ l
  | [], h => by simp
  | x :: r, h => by
    unfold memN at h
    split at h
    · cases h
    · rename_i hb
      have := memN_false h
      intro hm
      rcases List.mem_cons.1 hm with rfl | hm
      · simp at hb
      · exact this hm

section
variable (look : Nat → Option Blk) (us : List Nat)

def fzC (c : Cell) : Cell := match c with
  | .own b => match memN b us with
    | true => match sliceOf look (.own b) with | some ⟨t, l⟩ => .ro t l | none => .own b
    | false => .own b
  | .sub b o n => match memN b us with
    | true => match sliceOf look (.sub b o n) with | some ⟨t, l⟩ => .ro t l | none => .sub b o n
    | false => .sub b o n
  | c => c
def fzV : V1 → V1
  | .c x => .c (fzC look us x)
  | .agg cs => .agg (cs.map (fzC look us))
def fzA : AV → AV
  | .dead => .dead
  | .one v => .one (fzV look us v)
  | .tup l => .tup (l.map (fzV look us))
def fzB : Blk → Blk
  | .arr t l => .arr t l
  | .var cs => .var (cs.map (fzC look us))
  | .mp ka kt vt l => .mp ka kt vt l

def inN (acc : List Nat) : List Nat → Bool
  | [] => true
  | x :: r => match memN x acc with | true => inN acc r | false => false
def nodupN : List Nat → Bool
  | [] => true
  | x :: r => match memN x r with | true => false | false => nodupN r
def prefN : Nat → Nat → List Nat → Bool
  | 0, _, _ => true
  | _ + 1, _, [] => false
  | m + 1, k, x :: r => match Nat.beq x k with | true => prefN m (k + 1) r | false => false
def chkAcc (m : Nat) (acc : List Nat) : Bool := match nodupN acc with | true => prefN m 0 acc | false => false
def chkH (acc : List Nat) : List Nat → Bool
  | [] => true
  | n :: r => match memN n us with
    | true => chkH acc r
    | false => match look n with
      | some x => (match inN acc (fzB look us x).names with | true => chkH acc r | false => false)
      | none => chkH acc r
def wkB (acc : List Nat) (n : Nat) : Option Blk := match memN n us with
  | true => none
  | false => match look n with
    | some x => some ((fzB look us x).rn (idx acc))
    | none => none
def wkH (acc : List Nat) : List (Option Blk) := acc.map (wkB look us acc)
end

theorem inN_mem {acc : List Nat} : ∀ {l : List Nat}, inN acc l = true → ∀ x ∈ l, x ∈ acc
  | [], _, x, hx => by cases hx
  | y :: r, h, x, hx => by
    unfold inN at h
    split at h
    · rename_i hy
      rcases List.mem_cons.1 hx with rfl | hx
      · exact memN_true hy
      · exact inN_mem h x hx
    · cases h
theorem nodupN_ok : ∀ {l : List Nat}, nodupN l = true → l.Nodup
  | [], _ => List.nodup_nil
  | x :: r, h => by
    unfold nodupN at h
    split at h
    · cases h
    · rename_i hx
      exact List.nodup_cons.2 ⟨memN_false hx, nodupN_ok h⟩
theorem prefN_ok : ∀ {m k : Nat} {l : List Nat}, prefN m k l = true → ∀ i, i < m → l[i]? = some (k + i)
  | 0, _, _, _, i, hi => by omega
  | _ + 1, _, [], h, _, _ => by cases h
  | m + 1, k, x :: r, h, i, hi => by
    unfold prefN at h
    split at h
    · rename_i hx
      cases i with
      | zero => simp [Nat.eq_of_beq_eq_true hx]
      | succ i => have := prefN_ok h i (by omega); simp [this]; omega
    · cases h
theorem chkAcc_ok {m : Nat} {acc : List Nat} (h : chkAcc m acc = true) : acc.Nodup ∧ ∀ i, i < m → acc[i]? = some i := by
  unfold chkAcc at h
  split at h
  · rename_i h1
    exact ⟨nodupN_ok h1, fun i hi => by have := prefN_ok h i hi; simpa using this⟩
  · cases h
theorem chkH_ok {look : Nat → Option Blk} {us acc : List Nat} : ∀ {l : List Nat}, chkH look us acc l = true → ∀ n ∈ l, n ∉ us → ∀ x, look n = some x → ∀ k ∈ (fzB look us x).names, k ∈ acc
  | [], _, n, hn => by cases hn
  | y :: r, h, n, hn => by
    intro hu x hx k hk
    unfold chkH at h
    rcases List.mem_cons.1 hn with rfl | hn
    · split at h
      · rename_i hm; exact absurd (memN_true hm) hu
      · rw [hx] at h
        simp only at h
        split at h
        · rename_i hi; exact inN_mem hi k hk
        · cases h
    · have : chkH look us acc r = true := by
        split at h
        · exact h
        · split at h
          · split at h
            · exact h
            · cases h
          · exact h
      exact chkH_ok this n hn hu x hx k hk

section
variable {E : Env} {look : Nat → Option Blk} {us : List Nat}

theorem fzC_rel (hH : HeapOk E) (hl : ∀ b, E.H b = look b) {c : Cell} {vs : List Value} (hc : CellR E c vs) : CellR (killE E us) (fzC look us c) vs := by
  have hl' : ∀ b x, look b = some x → E.H b = some x := fun b x h => (hl b).trans h
  have key : ∀ {c : Cell} {t : Ty} {l : List (Den t)} {v : Value}, (∀ n ∈ c.names, n ∈ us) → sliceOf look c = some ⟨t, l⟩ → CellR E c [v] → CellR (killE E us) (.ro t l) [v] := by
    intro c t l v hn h hc
    refine ⟨v, rfl, ?_⟩
    exact (sliceOf_rel hH hl' h hc).mono (fun g hg => ⟨SU.mono hn hg, rfl⟩) fun _ _ hx => hx.su
  unfold fzC
  split
  · rename_i b
    split
    · rename_i hb
      split
      · rename_i t l hs
        have hc' := hc
        obtain ⟨v, ⟨e, _⟩, _⟩ := hc'
        subst e
        exact key (fun n hn => by simp [Cell.names] at hn; subst hn; exact memN_true hb) hs hc
      · exact hc.ext (killE_ext us)
    · exact hc.ext (killE_ext us)
  · rename_i b o n
    split
    · rename_i hb
      split
      · rename_i t l hs
        have hc' := hc
        obtain ⟨v, ⟨e, _⟩, _⟩ := hc'
        subst e
        exact key (fun n hn => by simp [Cell.names] at hn; subst hn; exact memN_true hb) hs hc
      · exact hc.ext (killE_ext us)
    · exact hc.ext (killE_ext us)
  · exact hc.ext (killE_ext us)

theorem fzIR (hH : HeapOk E) (hl : ∀ b, E.H b = look b) : ∀ {cs : List Cell} {vs : List Value}, IR E cs vs → IR (killE E us) (cs.map (fzC look us)) vs
  | [], _, h => h
  | _ :: _, _, ⟨r, s, e, h1, h2⟩ => ⟨r, s, e, fzC_rel hH hl h1, fzIR hH hl h2⟩
theorem fzV_rel (hH : HeapOk E) (hl : ∀ b, E.H b = look b) : {x : V1} → {v : Value} → V1R E x v → V1R (killE E us) (fzV look us x) v
  | .c _, _, h => fzC_rel hH hl h
  | .agg _, _, ⟨vals, e, h⟩ => ⟨vals, e, fzIR hH hl h⟩
theorem fzVs (hH : HeapOk E) (hl : ∀ b, E.H b = look b) : ∀ {xs : List V1} {vs : List Value}, VsR E xs vs → VsR (killE E us) (xs.map (fzV look us)) vs
  | [], _, h => h
  | _ :: _, _, ⟨r, s, e, h1, h2⟩ => ⟨r, s, e, fzV_rel hH hl h1, fzVs hH hl h2⟩
theorem fzA_rel (hH : HeapOk E) (hl : ∀ b, E.H b = look b) : {x : AV} → {v : Value} → AVR E x v → AVR (killE E us) (fzA look us x) v
  | .dead, _, _ => trivial
  | .one _, _, h => fzV_rel hH hl h
  | .tup _, _, ⟨vs, e, h⟩ => ⟨vs, e, fzVs hH hl h⟩
theorem fzC_size (c : Cell) : (fzC look us c).size = c.size := by
  unfold fzC
  split
  · split
    · split <;> rfl
    · rfl
  · split
    · split <;> rfl
    · rfl
  · rfl
theorem fzB_shape (x : Blk) : shape (fzB look us x) = shape x := by
  cases x with
  | arr t l => rfl
  | var cs =>
    simp only [fzB, shape, List.map_map]
    congr 1
    apply List.map_congr_left
    intro c _
    exact fzC_size c
  | mp _ _ _ _ => rfl
theorem fzB_rel (hH : HeapOk E) (hl : ∀ b, E.H b = look b) {b : Nat} {x : Blk} (hx : BlkR E b x) : BlkR (killE E us) b (fzB look us x) := by
  cases x with
  | arr t l =>
    rcases hx with h | ⟨g, cs, el, vs, spare, h1, h2, h3, h4⟩
    · exact .inl h
    · exact .inr ⟨g, cs, el, vs, spare, h1, h2, h3, h4.mono fun _ _ hx => hx.su⟩
  | var is =>
    obtain ⟨g, cs, el, h1, h2, h3⟩ := hx
    exact ⟨g, cs, el, h1, h2, fzIR hH hl h3⟩
  | mp ka kt vt l => exact hx
end

def weakE (E : Env) (look : Nat → Option Blk) (us acc : List Nat) : Env :=
  { w := E.w, ρ := fun i => (acc[i]?).bind E.ρ, S := SU E us, H := fun b => match (wkH look us acc)[b]? with | some x => x | none => none, U := fun i => i < acc.length }

theorem weakE_H {E : Env} {look : Nat → Option Blk} {us acc : List Nat} {b : Nat} {x : Blk} (h : (weakE E look us acc).H b = some x) :
    ∃ n y, acc[b]? = some n ∧ n ∉ us ∧ look n = some y ∧ x = (fzB look us y).rn (idx acc) := by
  have h : (match (wkH look us acc)[b]? with | some x => x | none => none) = some x := h
  unfold wkH at h
  rw [List.getElem?_map] at h
  cases hb : acc[b]? with
  | none => rw [hb] at h; cases h
  | some n =>
    rw [hb] at h
    simp only [Option.map_some] at h
    unfold wkB at h
    split at h
    · cases h
    · rename_i hn
      split at h
      · rename_i y hy
        injection h with h
        exact ⟨n, y, rfl, memN_false hn, hy, h.symm⟩
      · cases h

theorem weak {m : Nat} {E0 E : Env} {look : Nat → Option Blk} {us acc : List Nat} (hm : ∀ b, E0.U b → b < m) (hH : HeapOk E) (hl : ∀ b, E.H b = look b) (hf : Fr E0 E)
    (c1 : chkAcc m acc = true) (c2 : chkH look us acc acc = true) :
    HeapOk (weakE E look us acc) ∧ Fr E0 (weakE E look us acc) ∧ ∀ x v, inN acc (fzA look us x).names = true → AVR E x v → AVR (weakE E look us acc) ((fzA look us x).rn (idx acc)) v := by
  obtain ⟨hn, hpre⟩ := chkAcc_ok c1
  have hk := killE_ok hH us
  have kH : ∀ n y, n ∉ us → look n = some y → (killE E us).H n = some y := fun n y h1 h2 => by
    show (if n ∈ us then none else E.H n) = some y
    rw [if_neg h1, hl, h2]
  have rnat : ∀ b ∈ acc, RnAt (killE E us) (weakE E look us acc) (idx acc) b := by
    intro b hb _
    have h1 := idx_mem hn hb
    refine ⟨(List.getElem?_eq_some_iff.1 h1).1, fun x hx => ?_⟩
    obtain ⟨n, y, h2, h3, h4, rfl⟩ := weakE_H hx
    rw [h1] at h2
    injection h2 with h2
    subst h2
    refine ⟨y, kH _ _ h3 h4, by rw [shape_rn, fzB_shape], ?_⟩
    show (acc[idx acc b]?).bind E.ρ = E.ρ b
    rw [h1]; rfl
  refine ⟨⟨fun b x hx => ?_, fun b b' x x' g hx hx' hr hr' => ?_, hk.st⟩, ⟨⟨hf.fr.os, hf.fr.tape, hf.fr.output, hf.fr.size, hf.fr.old, fun b x g hx hr => ?_, (killE_fr us hf.fr).S⟩, ⟨fun g hg => ((hf.ext.trans (killE_ext us)).S g hg), fun b hb => ?_, fun b x' hb hx => ?_⟩⟩, fun x v hx hv => ?_⟩
  · obtain ⟨n, y, h1, h2, h3, rfl⟩ := weakE_H hx
    obtain ⟨k1, k2, k3⟩ := hk.blk n y (kH _ _ h2 h3)
    obtain ⟨_, k2', _⟩ := hH.blk n y ((hl n).trans h3)
    have hr : (weakE E look us acc).ρ (idx acc n) = (killE E us).ρ n := by
      show (acc[idx acc n]?).bind E.ρ = E.ρ n
      rw [idx_at hn h1, h1]; rfl
    have := BlkR.rn (E := killE E us) (E' := weakE E look us acc) (f := idx acc) (i := n) rfl (.inl fun _ h => h) (fun j hj => rnat j (chkH_ok c2 n (List.mem_of_getElem? h1) h2 y h3 j hj)) hr (fzB_rel hH hl k2')
    rw [idx_at hn h1] at this hr
    exact ⟨(List.getElem?_eq_some_iff.1 h1).1, this, fun g hg => k3 g (hr ▸ hg)⟩
  · obtain ⟨n, y, h1, h2, h3, rfl⟩ := weakE_H hx
    obtain ⟨n', y', h1', h2', h3', rfl⟩ := weakE_H hx'
    have e1 : E.ρ n = some g := by have : (acc[b]?).bind E.ρ = some g := hr; rwa [h1] at this
    have e2 : E.ρ n' = some g := by have : (acc[b']?).bind E.ρ = some g := hr'; rwa [h1'] at this
    have := hH.inj n n' y y' g ((hl n).trans h3) ((hl n').trans h3') e1 e2
    subst this
    rw [← idx_at hn h1, ← idx_at hn h1']
  · obtain ⟨n, y, h1, h2, h3, rfl⟩ := weakE_H hx
    have e1 : E.ρ n = some g := by have : (acc[b]?).bind E.ρ = some g := hr; rwa [h1] at this
    exact hf.fr.own n y g ((hl n).trans h3) e1
  · have := hpre b (hm b hb)
    exact (List.getElem?_eq_some_iff.1 this).1
  · have h0 := hpre b (hm b hb)
    obtain ⟨n, y, h1, h2, h3, rfl⟩ := weakE_H hx
    rw [h0] at h1
    injection h1 with h1
    subst h1
    obtain ⟨x, e1, e2, e3, e4⟩ := (hf.ext.trans (killE_ext us)).H b y hb (kH _ _ h2 h3)
    refine ⟨x, e1, ?_, by rw [shape_rn, fzB_shape, e3], e4⟩
    show (acc[b]?).bind E.ρ = E0.ρ b
    rw [h0]
    exact e2
  · exact AVR.rn (E := killE E us) (E' := weakE E look us acc) rfl (.inl fun _ h => h) (fun i hi => rnat i (inN_mem hx i hi)) (fzA_rel hH hl hv)

def leV (look : Nat → Option Blk) (us acc : List Nat) (x y : AV) : Prop := match y with
  | .dead => True
  | y => inN acc (fzA look us x).names = true ∧ (fzA look us x).rn (idx acc) = y
def leT (look : Nat → Option Blk) (us acc : List Nat) : List AV → List AV → Prop
  | [], [] => True
  | x :: xs, y :: ys => leV look us acc x y ∧ leT look us acc xs ys
  | _, _ => False

theorem leT_at {look : Nat → Option Blk} {us acc : List Nat} : ∀ {xs ys : List AV}, leT look us acc xs ys → xs.length = ys.length ∧ ∀ (i : Nat) y, ys[i]? = some y → ∃ x, xs[i]? = some x ∧ leV look us acc x y
  | [], [], _ => ⟨rfl, fun i y h => by simp at h⟩
  | x :: xs, y :: ys, ⟨h1, h2⟩ => by
    obtain ⟨h3, h4⟩ := leT_at h2
    refine ⟨by simp [h3], fun i z hz => ?_⟩
    cases i with
    | zero => simp at hz; subst hz; exact ⟨x, rfl, h1⟩
    | succ i => exact h4 i z (by simpa using hz)
  | [], _ :: _, h => h.elim
  | _ :: _, [], h => h.elim

theorem leV_rel {E E' : Env} {look : Nat → Option Blk} {us acc : List Nat} {x y : AV} {v : Value} (h : leV look us acc x y) (hh : inN acc (fzA look us x).names = true → AVR E' ((fzA look us x).rn (idx acc)) v) : AVR E' y v := by
  cases y with
  | dead => trivial
  | one _ => obtain ⟨h1, h2⟩ := h; rw [← h2]; exact hh h1
  | tup _ => obtain ⟨h1, h2⟩ := h; rw [← h2]; exact hh h1

theorem Le.mk {m : Nat} {st st' : St} (us acc : List Nat) (c1 : chkAcc m acc = true) (c2 : chkH st.look us acc acc = true) (hh : wkH st.look us acc = st'.heap) (ht : leT st.look us acc st.tmps st'.tmps) : Le m st st' := by
  intro E0 E a hm hs hf
  obtain ⟨h1, h2, h3⟩ := weak hm hs.ok hs.H hf c1 c2
  obtain ⟨h4, h5⟩ := leT_at ht
  refine ⟨weakE E st.look us acc, rfl, ⟨hs.defers, hs.len.trans h4, fun i y hy => ?_, h1, fun b => ?_, fun b hb => ?_⟩, h2⟩
  · obtain ⟨x, hx, hxy⟩ := h5 i y hy
    obtain ⟨v, hv1, hv2⟩ := hs.tmp i x hx
    exact ⟨v, hv1, leV_rel (E := E) hxy fun hi => h3 x v hi hv2⟩
  · show (match (wkH st.look us acc)[b]? with | some x => x | none => none) = st'.look b
    rw [hh]; rfl
  · rw [← hh]
    have hb : b < acc.length := hb
    simpa [wkH] using hb

end Go.Fw

