/- Calls. -/
import Derived.Test.YtblnigjmcjpopaaFw16
namespace Go.Fw
set_option linter.unusedVariables false
set_option linter.unusedSimpArgs false

section
variable {P : Program} {T : Tab}

theorem addF_at : ∀ (l : List Blk) (H : Nat → Option Blk) (nm b : Nat), addF H nm l b = if nm ≤ b ∧ b < nm + l.length then l[b - nm]? else H b
  | [], H, nm, b => by simp [addF]; omega
  | x :: l, H, nm, b => by
    rw [addF, addF_at l]
    by_cases h : b = nm
    · subst h
      rw [if_neg (by omega), if_pos (by simp)]
      simp
    · by_cases h2 : nm + 1 ≤ b ∧ b < nm + 1 + l.length
      · rw [if_pos h2, if_pos (by simp; omega), show b - nm = (b - (nm + 1)) + 1 from by omega]
        simp
      · rw [if_neg h2, if_neg h, if_neg (by simp; omega)]

theorem mapO_some {α β : Type} {f : α → Option β} : ∀ {l : List α} {r : List β}, mapO f l = some r → r.length = l.length ∧ ∀ (i : Nat) x, l[i]? = some x → ∃ y, f x = some y ∧ r[i]? = some y
  | [], r, h => by
    simp only [mapO, Option.some.injEq] at h
    subst h
    exact ⟨rfl, fun i x h => by simp at h⟩
  | a :: l, r, h => by
    unfold mapO at h
    cases h1 : f a with
    | none => rw [h1] at h; cases h
    | some y =>
      rw [h1] at h
      simp only at h
      cases h2 : mapO f l with
      | none => rw [h2] at h; cases h
      | some ys =>
        rw [h2] at h
        injection h with h
        subst h
        obtain ⟨h3, h4⟩ := mapO_some h2
        refine ⟨by simp [h3], fun i x hx => ?_⟩
        cases i with
        | zero => simp at hx; subst hx; exact ⟨y, h1, rfl⟩
        | succ i => exact h4 i x (by simpa using hx)

/-- the environment of a call that only reads -/
def viewE (E : Env) (us : List Nat) : Env := { w := E.w, ρ := fun _ => none, S := SU E us, H := fun _ => none, U := fun _ => False }

theorem viewE_ok {E : Env} (hH : HeapOk E) (us : List Nat) : HeapOk (viewE E us) :=
  ⟨fun b x h => by simp [viewE] at h, fun b b' x x' g h => by simp [viewE] at h, fun g hg => by
    rcases hg with hg | ⟨u, y, hu, hy, hr⟩
    · exact hH.st g hg
    · exact (live_lt hH hy hr).1⟩

theorem viewC_rel {E : Env} {look : Nat → Option Blk} (hH : HeapOk E) (hl : ∀ b x, look b = some x → E.H b = some x) {us : List Nat} {c c' : Cell} {vs : List Value} (hu : ∀ n ∈ c.names, n ∈ us) (h : viewC look c = some c') (hc : CellR E c vs) : CellR (viewE E us) c' vs := by
  unfold viewC at h
  split at h
  · injection h with h; subst h; exact hc
  · injection h with h; subst h; exact hc
  · injection h with h
    subst h
    obtain ⟨caps, e, h1, _⟩ := hc
    exact ⟨caps, e, h1, fun i b hb => by simp at hb⟩
  · split at h
    · rename_i t l hs
      injection h with h
      subst h
      have hlen := hc.len
      have : c.size = 1 := by cases c <;> first | rfl | (simp [sliceOf] at hs)
      rw [this] at hlen
      match vs, hlen with
      | [v], _ =>
        exact ⟨v, rfl, (sliceOf_rel hH hl hs hc).mono (fun g hg => ⟨hg.mono hu, rfl⟩) fun _ _ hx => hx.mono fun g hg => ⟨.inl hg, rfl⟩⟩
    · cases h

theorem viewIR {E : Env} {look : Nat → Option Blk} (hH : HeapOk E) (hl : ∀ b x, look b = some x → E.H b = some x) {us : List Nat} : ∀ {cs cs' : List Cell} {vs : List Value}, (∀ n ∈ cs.flatMap (·.names), n ∈ us) → mapO (viewC look) cs = some cs' → IR E cs vs → IR (viewE E us) cs' vs
  | [], cs', vs, _, h, hr => by
    simp only [mapO, Option.some.injEq] at h
    subst h
    exact hr
  | c :: cs, cs', _, hu, h, ⟨r, s, e, h1, h2⟩ => by
    subst e
    unfold mapO at h
    cases h3 : viewC look c with
    | none => rw [h3] at h; cases h
    | some y =>
      rw [h3] at h
      simp only at h
      cases h4 : mapO (viewC look) cs with
      | none => rw [h4] at h; cases h
      | some ys =>
        rw [h4] at h
        injection h with h
        subst h
        exact ⟨r, s, rfl, viewC_rel hH hl (fun n hn => hu n (by simp [hn])) h3 h1, viewIR hH hl (fun n hn => hu n (by simp at hn ⊢; exact .inr hn)) h4 h2⟩

theorem viewV_rel {E : Env} {look : Nat → Option Blk} (hH : HeapOk E) (hl : ∀ b x, look b = some x → E.H b = some x) {us : List Nat} {x y : V1} {v : Value} (hu : ∀ n ∈ x.names, n ∈ us) (h : viewV look x = some y) (hx : V1R E x v) : V1R (viewE E us) y v := by
  cases x with
  | c c =>
    simp only [viewV] at h
    cases h1 : viewC look c with
    | none => rw [h1] at h; cases h
    | some c' => rw [h1] at h; injection h with h; subst h; exact viewC_rel hH hl hu h1 hx
  | agg cs =>
    simp only [viewV] at h
    cases h1 : mapO (viewC look) cs with
    | none => rw [h1] at h; cases h
    | some cs' =>
      rw [h1] at h; injection h with h; subst h
      obtain ⟨vals, e, hr⟩ := hx
      exact ⟨vals, e, viewIR hH hl hu h1 hr⟩

theorem viewVs_rel {E : Env} {look : Nat → Option Blk} (hH : HeapOk E) (hl : ∀ b x, look b = some x → E.H b = some x) {us : List Nat} : ∀ {xs ys : List V1} {vs : List Value}, (∀ n ∈ xs.flatMap (·.names), n ∈ us) → mapO (viewV look) xs = some ys → VsR E xs vs → VsR (viewE E us) ys vs
  | [], ys, vs, _, h, hr => by
    simp only [mapO, Option.some.injEq] at h
    subst h
    exact hr
  | x :: xs, ys, _, hu, h, ⟨v, r, e, h1, h2⟩ => by
    subst e
    unfold mapO at h
    cases h3 : viewV look x with
    | none => rw [h3] at h; cases h
    | some y =>
      rw [h3] at h
      simp only at h
      cases h4 : mapO (viewV look) xs with
      | none => rw [h4] at h; cases h
      | some ys' =>
        rw [h4] at h
        injection h with h
        subst h
        exact ⟨v, r, rfl, viewV_rel hH hl (fun n hn => hu n (by simp [hn])) h3 h1, viewVs_rel hH hl (fun n hn => hu n (by simp at hn ⊢; exact .inr hn)) h4 h2⟩

theorem viewC_names {look : Nat → Option Blk} {c c' : Cell} (h : viewC look c = some c') (ho : c.isOwn = false) : c.names = [] := by
  cases c <;> first
    | rfl
    | (simp [Cell.isOwn] at ho; done)
    | (simp [viewC, sliceOf] at h; done)
    | (rename_i f bs
       cases bs with
       | nil => rfl
       | cons a r => simp [viewC, sliceOf] at h)

theorem view_names {look : Nat → Option Blk} : ∀ {cs cs' : List Cell}, mapO (viewC look) cs = some cs' → cs.any Cell.isOwn = false → cs.flatMap (·.names) = []
  | [], _, _, _ => rfl
  | c :: cs, cs', h, ho => by
    unfold mapO at h
    cases h3 : viewC look c with
    | none => rw [h3] at h; cases h
    | some y =>
      rw [h3] at h
      simp only at h
      cases h4 : mapO (viewC look) cs with
      | none => rw [h4] at h; cases h
      | some ys =>
        simp only [List.any_cons, Bool.or_eq_false_iff] at ho
        simp [viewC_names h3 ho.1, view_names h4 ho.2]

theorem viewV_names {look : Nat → Option Blk} {x y : V1} (h : viewV look x = some y) (ho : x.hasOwn = false) : x.names = [] := by
  cases x with
  | c c =>
    simp only [viewV] at h
    cases h1 : viewC look c with
    | none => rw [h1] at h; cases h
    | some c' => exact viewC_names h1 ho
  | agg cs =>
    simp only [viewV] at h
    cases h1 : mapO (viewC look) cs with
    | none => rw [h1] at h; cases h
    | some cs' => exact view_names h1 ho

theorem viewVs_names {look : Nat → Option Blk} : ∀ {xs ys : List V1}, mapO (viewV look) xs = some ys → xs.any (·.hasOwn) = false → xs.flatMap (·.names) = []
  | [], _, _, _ => rfl
  | c :: cs, cs', h, ho => by
    unfold mapO at h
    cases h3 : viewV look c with
    | none => rw [h3] at h; cases h
    | some y =>
      rw [h3] at h
      simp only at h
      cases h4 : mapO (viewV look) cs with
      | none => rw [h4] at h; cases h
      | some ys =>
        simp only [List.any_cons, Bool.or_eq_false_iff] at ho
        simp [viewV_names h3 ho.1, viewVs_names h4 ho.2]

/-- behind a call that only read: the new blocks have come -/
theorem call_read {E : Env} (hH : HeapOk E) {us : List Nat} {nm : Nat} {r : AV} {fresh : List Blk} {p : Option Prop} {v : Value} {E' : Env} (hnm : ∀ k, k < fresh.length → ¬ E.U (nm + k)) (hb : Back (viewE E us) 0 r [] fresh v E')
    (hro : us = [] ∨ (r.hasRo = false ∧ ∀ b ∈ fresh, b.plain = true)) :
    ∃ E'', E''.w = E'.w ∧ Step E { pre := p, val := r.rn (fun i => nm + i), add := fresh.map (·.rn (fun i => nm + i)), set := [] } nm E'' ∧ AVR E'' (r.rn (fun i => nm + i)) v := by
  have hfrz : ∀ g, ¬ (frameOf (viewE E us)).own0 g := by
    rintro g ⟨b, x, h, _⟩
    simp [viewE] at h
  have hsize : E.w.heap.size ≤ E'.w.heap.size := hb.fr.size
  have hold : ∀ g, g < E.w.heap.size → E'.w.heap[g]? = E.w.heap[g]? := fun g hg => hb.fr.old g hg (hfrz g)
  have hHf : ∀ b, E'.H b = fresh[b]? := fun b => by rw [hb.H b, if_neg (by omega)]; rfl
  have hUf : ∀ b, E'.U b ↔ b < fresh.length := fun b => by rw [hb.U b]; omega
  have hown : ∀ b x g, E'.H b = some x → E'.ρ b = some g → E.w.heap.size ≤ g := fun b x g hx hr => (hb.fr.own b x g hx hr).resolve_right (hfrz g)
  let E'' : Env := Env.mk E'.w (fun b => if nm ≤ b ∧ b < nm + fresh.length then E'.ρ (b - nm) else E.ρ b) (fun g => E.S g ∨ (E.w.heap.size ≤ g ∧ E'.S g))
    (fun b => if nm ≤ b ∧ b < nm + fresh.length then (fresh[b - nm]?).map (·.rn (fun i => nm + i)) else E.H b) (fun b => E.U b ∨ (nm ≤ b ∧ b < nm + fresh.length))
  have hin : ∀ b, E.U b → ¬ (nm ≤ b ∧ b < nm + fresh.length) := fun b hU h => hnm (b - nm) (by omega) (by rwa [show nm + (b - nm) = b from by omega])
  have hlive : ∀ b x, E.H b = some x → ¬ (nm ≤ b ∧ b < nm + fresh.length) := fun b x hx => hin b (hH.blk b x hx).1
  have hext : Ext E E'' := by
    refine ⟨fun g hg => ⟨.inl hg, hold g (hH.st g hg)⟩, fun b h => .inl h, fun b x' hU hx => ?_⟩
    have hx : E.H b = some x' := by simpa [E'', hin b hU] using hx
    refine ⟨x', hx, by simp [E'', hin b hU], rfl, fun g cs el hr hc => ⟨cs, ?_, rfl⟩⟩
    exact (hold g (Array.getElem?_eq_some_iff.1 hc).1).trans hc
  have hat : ∀ i, RnAt E' E'' (fun i => nm + i) i := by
    intro i hi
    rw [hUf] at hi
    have h1 : nm ≤ nm + i ∧ nm + i < nm + fresh.length := by omega
    refine ⟨.inr h1, fun x hx => ?_⟩
    simp only [E'', h1, and_self, if_true, Nat.add_sub_cancel_left] at hx
    cases hf : fresh[i]? with
    | none => rw [hf] at hx; cases hx
    | some y =>
      rw [hf] at hx
      injection hx with hx
      subst hx
      exact ⟨y, by rw [hHf, hf], shape_rn _ _, by simp [E'', h1]⟩
  have hS1 : us = [] → ∀ g, E'.S g → E''.S g := by
    intro he g hg
    rcases hb.fr.S g hg with h | h | h
    · left
      rcases h with h | ⟨u, _, hu, _⟩
      · exact h
      · subst he; simp at hu
    · exact .inr ⟨h, hg⟩
    · exact absurd h (hfrz g)
  have hS2 : (∀ g, E'.S g → E''.S g) ∨ r.hasRo = false := hro.imp hS1 (·.1)
  have hnew : ∀ b, nm ≤ b ∧ b < nm + fresh.length → ∀ x, E''.H b = some x → ∃ y, fresh[b - nm]? = some y ∧ x = y.rn (fun i => nm + i) := by
    intro b hbn x hx
    simp only [E'', hbn, and_self, if_true] at hx
    cases hf : fresh[b - nm]? with
    | none => rw [hf] at hx; cases hx
    | some y => rw [hf] at hx; injection hx with hx; exact ⟨y, rfl, hx.symm⟩
  refine ⟨E'', rfl, ⟨hext, ⟨fun b x hx => ?_, fun b b' x x' g hx hx' hr hr' => ?_, fun g hg => ?_⟩, fun b => ?_, fun b => ?_, fun F hF => ⟨hb.fr.os.trans hF.os, hb.fr.tape.trans hF.tape, hb.fr.output.trans hF.output, Nat.le_trans hF.size hsize, fun g hg ho => ?_, fun b x g hx hr => ?_, fun g hg => ?_⟩⟩, ?_⟩
  · by_cases hbn : nm ≤ b ∧ b < nm + fresh.length
    · obtain ⟨y, hf, rfl⟩ := hnew b hbn x hx
      have hy : E'.H (b - nm) = some y := by rw [hHf, hf]
      obtain ⟨h1, h2, h3⟩ := hb.ok.blk _ _ hy
      have hmem : y ∈ fresh := List.mem_of_getElem? hf
      have := BlkR.rn (E := E') (E' := E'') (f := fun i => nm + i) (i := b - nm) rfl (hro.imp hS1 (fun h => h.2 y hmem)) (fun j _ => hat j) (by show E''.ρ (nm + (b - nm)) = _; simp only [E'']; rw [if_pos (by omega)]; congr 1; omega) h2
      rw [show nm + (b - nm) = b from by omega] at this
      refine ⟨.inr hbn, this, fun g hg => ?_⟩
      simp only [E'', hbn, and_self, if_true] at hg
      have hge := hown _ _ _ hy hg
      rintro (h | ⟨_, h⟩)
      · have := hH.st g h; omega
      · exact h3 g hg h
    · simp only [E'', hbn, if_false] at hx
      obtain ⟨h1, h2, h3⟩ := hH.blk b x hx
      refine ⟨.inl h1, h2.ext hext (by simp [E'', hbn]) (fun g hg => hold g (live_lt hH hx hg).1), fun g hg => ?_⟩
      simp only [E'', hbn, if_false] at hg
      have hlt := (live_lt hH hx hg).1
      rintro (h | ⟨h, _⟩)
      · exact h3 g hg h
      · omega
  · by_cases hbn : nm ≤ b ∧ b < nm + fresh.length <;> by_cases hbn' : nm ≤ b' ∧ b' < nm + fresh.length
    · obtain ⟨y, hf, rfl⟩ := hnew b hbn x hx
      obtain ⟨y', hf', rfl⟩ := hnew b' hbn' x' hx'
      simp only [E'', hbn, hbn', and_self, if_true] at hr hr'
      have := hb.ok.inj _ _ y y' g (by rw [hHf, hf]) (by rw [hHf, hf']) hr hr'
      omega
    · obtain ⟨y, hf, rfl⟩ := hnew b hbn x hx
      simp only [E'', hbn, hbn', and_self, if_true, if_false] at hx' hr hr'
      have h1 := hown _ y _ (by rw [hHf, hf]) hr
      have h2 := (live_lt hH hx' hr').1
      omega
    · obtain ⟨y, hf, rfl⟩ := hnew b' hbn' x' hx'
      simp only [E'', hbn, hbn', and_self, if_true, if_false] at hx hr hr'
      have h1 := hown _ y _ (by rw [hHf, hf]) hr'
      have h2 := (live_lt hH hx hr).1
      omega
    · simp only [E'', hbn, hbn', if_false] at hx hx' hr hr'
      exact hH.inj b b' x x' g hx hx' hr hr'
  · rcases hg with h | ⟨_, h⟩
    · have := hH.st g h
      exact Nat.lt_of_lt_of_le this hsize
    · exact hb.ok.st g h
  · simp only [setF, addF_at, List.length_map]
    by_cases hbn : nm ≤ b ∧ b < nm + fresh.length
    · simp [E'', hbn]
    · simp [E'', hbn]
  · simp [E'']
  · exact (hold g (Nat.lt_of_lt_of_le hg hF.size)).trans (hF.old g hg ho)
  · by_cases hbn : nm ≤ b ∧ b < nm + fresh.length
    · obtain ⟨y, hf, rfl⟩ := hnew b hbn x hx
      simp only [E'', hbn, and_self, if_true] at hr
      exact .inl (Nat.le_trans hF.size (hown _ y _ (by rw [hHf, hf]) hr))
    · simp only [E'', hbn, if_false] at hx hr
      exact hF.own b x g hx hr
  · rcases hg with h | ⟨h, _⟩
    · exact hF.S g h
    · exact .inr (.inl (Nat.le_trans hF.size h))
  · exact AVR.rn (E := E') (E' := E'') rfl hS2 (fun i _ => hat i) hb.val

end
end Go.Fw
