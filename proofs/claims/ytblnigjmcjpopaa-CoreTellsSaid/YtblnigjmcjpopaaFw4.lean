/- Frames, steps of the abstract heap, slices and items as pure data. -/
import Derived.Test.YtblnigjmcjpopaaFw3
import Derived.Laws.Cells
import Derived.Laws.Rows
namespace Go.Fw
set_option linter.unusedVariables false
set_option linter.unusedSimpArgs false

structure Frame where
  w0 : World
  own0 : Nat → Prop
  S0 : Nat → Prop

structure FrameOk (F : Frame) (E : Env) : Prop where
  os : E.w.os = F.w0.os
  tape : E.w.tape = F.w0.tape
  output : E.w.output = F.w0.output
  size : F.w0.heap.size ≤ E.w.heap.size
  old : ∀ g, g < F.w0.heap.size → ¬ F.own0 g → E.w.heap[g]? = F.w0.heap[g]?
  own : ∀ b x g, E.H b = some x → E.ρ b = some g → F.w0.heap.size ≤ g ∨ F.own0 g
  S : ∀ g, E.S g → F.S0 g ∨ F.w0.heap.size ≤ g ∨ F.own0 g

def setF : (Nat → Option Blk) → List (Nat × Option Blk) → Nat → Option Blk
  | H, [] => H
  | H, (b, o) :: r => setF (fun x => if x = b then o else H x) r
def addF : (Nat → Option Blk) → Nat → List Blk → Nat → Option Blk
  | H, _, [] => H
  | H, n, x :: r => addF (fun y => if y = n then some x else H y) (n + 1) r

structure Step (E : Env) (r : Res) (nm : Nat) (E' : Env) : Prop where
  ext : Ext E E'
  ok : HeapOk E'
  H : ∀ b, E'.H b = addF (setF E.H r.set) nm r.add b
  U : ∀ b, E'.U b ↔ (E.U b ∨ (nm ≤ b ∧ b < nm + r.add.length))
  fr : ∀ F, FrameOk F E → FrameOk F E'

theorem Step.same {E : Env} {r : Res} {nm : Nat} (hH : HeapOk E) (h1 : r.add = []) (h2 : r.set = []) : Step E r nm E :=
  ⟨.refl E, hH, fun b => by rw [h1, h2]; rfl, fun b => by rw [h1]; simp; omega, fun _ h => h⟩

/-- S, and the blocks of some names -/
def SU (E : Env) (us : List Nat) (g : Nat) : Prop := E.S g ∨ ∃ u x, u ∈ us ∧ E.H u = some x ∧ E.ρ u = some g

theorem SU.of {E : Env} {us : List Nat} {g : Nat} (h : E.S g) : SU E us g := .inl h
theorem SU.mono {E : Env} {us us' : List Nat} (hs : ∀ u, u ∈ us → u ∈ us') {g : Nat} (h : SU E us g) : SU E us' g :=
  h.imp id fun ⟨u, x, hu, hx, hr⟩ => ⟨u, x, hs u hu, hx, hr⟩

theorem CR.su {E : Env} {us : List Nat} {t : Ty} {x : Den t} {vs : List Value} (h : CR E.w E.S t x vs) : CR E.w (SU E us) t x vs :=
  h.mono fun _ hg => ⟨.inl hg, rfl⟩
theorem CR.su_mono {E : Env} {us us' : List Nat} (hs : ∀ u, u ∈ us → u ∈ us') {t : Ty} {x : Den t} {vs : List Value} (h : CR E.w (SU E us) t x vs) : CR E.w (SU E us') t x vs :=
  h.mono fun _ hg => ⟨hg.mono hs, rfl⟩

theorem cell_at {w : World} {g : Nat} {cs : Array Value} {el : TypeId} {fr : Nat × Nat} (h : w.heap[g]? = some (.cells cs el fr)) (o : Nat) : w.cell? ⟨g, o, none⟩ = cs[o]? := by
  simp [World.cell?, h]
theorem frozen_at {w : World} {g : Nat} {cs : Array Value} {el : TypeId} (h : w.heap[g]? = some (.cells cs el (0, 0))) (o : Nat) : w.frozen? ⟨g, o, none⟩ = false := by
  simp [World.frozen?, h]
theorem add_at (g o k : Nat) : (⟨g, o, none⟩ : Addr).add k = ⟨g, o + k, none⟩ := by
  unfold Addr.add; split <;> simp_all

theorem ListRel_ints {w : World} {S : Nat → Prop} {k : IntKind} : ∀ (l : List Int), ListRel (CR w S (.int k)) l (l.map (.int k))
  | [] => rfl
  | x :: l => ⟨[.int k x], l.map (.int k), rfl, rfl, ListRel_ints l⟩

theorem ListRel.take_drop {α : Type} {R : α → List Value → Prop} {n : Nat} (hn : ∀ x vs, R x vs → vs.length = n) : ∀ {l : List α} {vs : List Value} (k : Nat), ListRel R l vs →
    ListRel R (l.take k) (vs.take (k * n)) ∧ ListRel R (l.drop k) (vs.drop (k * n))
  | l, vs, 0, h => by simp; exact ⟨rfl, h⟩
  | [], vs, k + 1, h => by simp only [ListRel] at h; subst h; simp; exact rfl
  | x :: l, _, k + 1, ⟨r, s, e, h1, h2⟩ => by
    subst e
    have hl := hn _ _ h1
    obtain ⟨h3, h4⟩ := h2.take_drop hn k
    have e1 : (r ++ s).take ((k + 1) * n) = r ++ s.take (k * n) := by
      rw [List.take_append, hl, show (k + 1) * n - n = k * n from by rw [Nat.add_mul]; omega, List.take_of_length_le (by rw [hl, Nat.add_mul]; omega)]
    have e2 : (r ++ s).drop ((k + 1) * n) = s.drop (k * n) := by
      rw [List.drop_append, hl, show (k + 1) * n - n = k * n from by rw [Nat.add_mul]; omega, List.drop_of_length_le (by rw [hl, Nat.add_mul]; omega)]; simp
    rw [e1, e2]
    exact ⟨⟨r, _, rfl, h1, h3⟩, h4⟩

theorem castL_eq {t : Ty} (h : t = t) (l : List (Den t)) : castL h l = l := rfl

theorem eqTy_some {a b : Ty} {h : PLift (a = b)} (e : eqTy a b = some h) : a = b := h.down

/-- what a slice is as data -/
theorem sliceOf_rel {E : Env} {look : Nat → Option Blk} (hH : HeapOk E) (hl : ∀ b x, look b = some x → E.H b = some x) {c : Cell} {v : Value} {t : Ty} {l : List (Den t)}
    (h : sliceOf look c = some ⟨t, l⟩) (hc : CellR E c [v]) : SlR E.w (SU E c.names) (CR E.w E.S t) l v := by
  cases c with
  | ro u l' =>
    simp only [sliceOf, Option.some.injEq, Sigma.mk.injEq] at h
    obtain ⟨rfl, h⟩ := h
    have h := eq_of_heq h
    subst h
    obtain ⟨v', e, hs⟩ := hc
    injection e with e
    subst e
    exact hs.mono (fun _ hg => ⟨.inl hg, rfl⟩) fun _ _ hx => hx
  | own b =>
    simp only [sliceOf] at h
    obtain ⟨v', ⟨e, _⟩, hu, hh⟩ := hc
    injection e with e
    subst e
    cases hb : look b with
    | none => rw [hb] at h; cases h
    | some x =>
      rw [hb] at h
      cases x with
      | var _ => cases h
      | mp _ _ _ _ => cases h
      | arr u l' =>
        simp only [Option.some.injEq, Sigma.mk.injEq] at h
        obtain ⟨rfl, h⟩ := h
        have h := eq_of_heq h
        subst h
        have hx := hl _ _ hb
        obtain ⟨_, hbr, _⟩ := hH.blk _ _ hx
        rcases hh _ _ hx with ⟨h1, rfl⟩ | ⟨g, cs, el, cap, h1, h2, rfl, h4, h5⟩
        · rcases hbr with ⟨_, rfl⟩ | ⟨g, _, _, _, _, h6, _⟩
          · exact ⟨none, 0, rfl, Nat.le_refl _, fun hne => absurd rfl hne⟩
          · rw [h1] at h6; cases h6
        · refine ⟨_, cap, rfl, h4, fun hne => ?_⟩
          rcases hbr with ⟨h6, rfl⟩ | ⟨g', cs', el', us, spare, h6, h7, h8, h9⟩
          · exact absurd rfl hne
          · rw [h1] at h6; injection h6 with h6; subst h6
            refine ⟨_, us, rfl, .inr ⟨b, _, by simp [Cell.names], hx, h1⟩, h9, fun k u hu => ?_⟩
            rw [add_at, cell_at h7, Nat.zero_add, ← Array.getElem?_toList, h8, List.getElem?_append_left (by exact (List.getElem?_eq_some_iff.1 hu).1)]
            exact hu
  | sub b off len =>
    simp only [sliceOf] at h
    obtain ⟨v', ⟨e, _⟩, hu, hh⟩ := hc
    injection e with e
    subst e
    cases hb : look b with
    | none => rw [hb] at h; cases h
    | some x =>
      rw [hb] at h
      cases x with
      | var _ => cases h
      | mp _ _ _ _ => cases h
      | arr u l' =>
        simp only [Option.some.injEq, Sigma.mk.injEq] at h
        obtain ⟨rfl, h⟩ := h
        have h := eq_of_heq h
        subst h
        have hx := hl _ _ hb
        obtain ⟨_, hbr, _⟩ := hH.blk _ _ hx
        obtain ⟨h0, hh⟩ := hh _ _ hx
        have hlen : ((l'.drop off).take len).length = len := by simp; omega
        rcases hh with ⟨h1, h2, rfl⟩ | ⟨g, ad, cap, h1, rfl, h4, h5⟩
        · subst h2
          exact ⟨none, 0, by simp, by simp, fun hne => absurd (by simp) hne⟩
        · refine ⟨_, cap, by rw [hlen], by rw [hlen]; exact h4, fun hne => ?_⟩
          have hpos : 0 < len := by
            rcases Nat.eq_zero_or_pos len with e | e
            · subst e; exact absurd (by simp) hne
            · exact e
          rcases hbr with ⟨h6, rfl⟩ | ⟨g', cs', el', us, spare, h6, h7, h8, h9⟩
          · simp at h0; omega
          · rw [h1] at h6; injection h6 with h6; subst h6
            have h10 := ((h9.take_drop (fun _ _ hx => hx.len) off).2.take_drop (fun _ _ hx => hx.len) len).1
            refine ⟨ad, _, rfl, .inr ⟨b, _, by simp [Cell.names], hx, by rw [h1, h5 hpos]⟩, h10, fun k u hu => ?_⟩
            rw [h5 hpos, add_at, cell_at h7, ← Array.getElem?_toList, h8]
            rw [List.getElem?_take] at hu
            split at hu
            · rw [List.getElem?_drop] at hu
              rw [List.getElem?_append_left (by exact (List.getElem?_eq_some_iff.1 hu).1)]
              exact hu
            · cases hu
  | srun b j =>
    simp only [sliceOf] at h
    obtain ⟨v', ⟨e, _⟩, hu, hh⟩ := hc
    injection e with e
    subst e
    cases hb : look b with
    | none => rw [hb] at h; cases h
    | some x =>
      rw [hb] at h
      cases x with
      | arr _ _ => cases h
      | mp _ _ _ _ => cases h
      | var cs =>
        simp only at h
        cases hi : itemAt cs j with
        | none => rw [hi] at h; cases h
        | some c =>
          rw [hi] at h
          cases c with
          | run k n l' =>
            simp only [Option.some.injEq, Sigma.mk.injEq] at h
            obtain ⟨rfl, h⟩ := h
            have h := eq_of_heq h
            subst h
            have hx := hl _ _ hb
            obtain ⟨_, ⟨g', cs', el', h6, h7, h8⟩, _⟩ := hH.blk _ _ hx
            obtain ⟨g, cap, h1, rfl, h3⟩ := hh _ _ hx hi
            rw [h1] at h6; injection h6 with h6; subst h6
            -- where the run lies
            have key : ∀ (cs : List Cell) (vs : List Value) (j : Nat), IR E cs vs → itemAt cs j = some (.run k n l') → l'.length = n ∧ ∀ i (u : Int), l'[i]? = some u → vs[j + i]? = some (.int k u) := by
              intro cs
              induction cs with
              | nil => intro vs j _ h; simp [itemAt] at h
              | cons c cs ih =>
                rintro vs j ⟨r, rest, rfl, hr, hrest⟩ h
                unfold itemAt at h
                cases h0 : Nat.beq j 0 with
                | true =>
                  rw [h0] at h
                  injection h with h
                  subst h
                  obtain ⟨hlen, rfl⟩ := hr
                  have : j = 0 := Nat.eq_of_beq_eq_true h0
                  subst this
                  refine ⟨hlen, fun i u hu => ?_⟩
                  rw [Nat.zero_add, List.getElem?_append_left (by simpa using (List.getElem?_eq_some_iff.1 hu).1)]
                  simp [hu]
                | false =>
                  rw [h0] at h
                  simp only at h
                  cases h1 : Nat.ble c.size j with
                  | true =>
                    rw [h1] at h
                    have hle := Nat.le_of_ble_eq_true h1
                    obtain ⟨hlen, hk⟩ := ih rest (j - c.size) hrest h
                    refine ⟨hlen, fun i u hu => ?_⟩
                    rw [List.getElem?_append_right (by rw [hr.len]; omega), hr.len, show j + i - c.size = j - c.size + i from by omega]
                    exact hk i u hu
                  | false => rw [h1] at h; cases h
            obtain ⟨hlen, hk⟩ := key cs cs'.toList j h8 hi
            refine ⟨_, cap, by rw [hlen]; rfl, by rw [hlen]; exact h3, fun hne => ⟨_, l'.map (.int k), rfl, .inr ⟨b, _, by simp [Cell.names], hx, h1⟩, ListRel_ints l', fun i u hu => ?_⟩⟩
            rw [add_at, cell_at h7, ← Array.getElem?_toList]
            rw [List.getElem?_map] at hu
            cases hi' : l'[i]? with
            | none => rw [hi'] at hu; cases hu
            | some y =>
              rw [hi'] at hu
              injection hu with hu
              subst hu
              exact hk i y hi'
          | _ => cases h
  | _ => simp [sliceOf] at h

theorem slAs_rel {E : Env} {look : Nat → Option Blk} (hH : HeapOk E) (hl : ∀ b x, look b = some x → E.H b = some x) {c : Cell} {v : Value} {t : Ty} {l : List (Den t)}
    (h : slAs look t c = some l) (hc : CellR E c [v]) : SlR E.w (SU E c.names) (CR E.w E.S t) l v := by
  unfold slAs at h
  split at h
  · injection h with h
    subst h
    obtain ⟨e, _⟩ := hc
    injection e with e
    subst e
    exact ⟨none, 0, rfl, Nat.le_refl _, fun hne => absurd rfl hne⟩
  · split at h
    · rename_i u l' hs
      split at h
      · rename_i he hq
        injection h with h
        obtain rfl := he.down
        subst h
        exact sliceOf_rel hH hl hs hc
      · cases h
    · cases h

theorem slAs_names {look : Nat → Option Blk} {c : Cell} {t : Ty} {l : List (Den t)} (h : slAs look t c = some l) :
    frzN c = c.names ∨ ∀ E v, CellR E c [v] → l = [] ∧ v = .slice none 0 0 := by
  unfold slAs at h
  split at h
  · refine .inr fun E v hc => ?_
    injection h with h
    obtain ⟨e, _⟩ := hc
    injection e with e
    exact ⟨h.symm, e⟩
  · cases c <;> first | exact .inl rfl | (simp [sliceOf] at h)

/-- cells as data -/
theorem dec_rel {E : Env} {look : Nat → Option Blk} (hH : HeapOk E) (hl : ∀ b x, look b = some x → E.H b = some x) : ∀ {t : Ty} {cs rest : List Cell} {vs : List Value} {d : Den t} {us : List Nat},
    dec look t cs = some (d, us, rest) → IR E cs vs → ∃ a b, vs = a ++ b ∧ CR E.w (SU E us) t d a ∧ IR E rest b := by
  intro t
  induction t with
  | int k =>
    intro cs rest vs d us h hr
    unfold dec at h
    split at h
    · split at h
      · rename_i hk
        simp only [Option.some.injEq, Prod.mk.injEq] at h
        obtain ⟨rfl, rfl, rfl⟩ := h
        obtain ⟨a, b, rfl, ⟨rfl, _⟩, hb⟩ := hr
        have := of_decide_eq_true hk
        subst this
        exact ⟨_, b, rfl, rfl, hb⟩
      · cases h
    · cases h
  | ints k n =>
    intro cs rest vs d us h hr
    unfold dec at h
    split at h
    · split at h
      · rename_i hk
        simp only [Option.some.injEq, Prod.mk.injEq] at h
        obtain ⟨rfl, rfl, rfl⟩ := h
        obtain ⟨a, b, rfl, ⟨hlen, rfl⟩, hb⟩ := hr
        rw [Bool.and_eq_true] at hk
        have h1 := of_decide_eq_true hk.1
        have h2 := Nat.eq_of_beq_eq_true hk.2
        subst h1 h2
        exact ⟨_, b, rfl, ⟨hlen, rfl⟩, hb⟩
      · cases h
    · cases h
  | bool =>
    intro cs rest vs d us h hr
    unfold dec at h
    split at h
    · simp only [Option.some.injEq, Prod.mk.injEq] at h
      obtain ⟨rfl, rfl, rfl⟩ := h
      obtain ⟨a, b, rfl, ⟨rfl, _⟩, hb⟩ := hr
      exact ⟨_, b, rfl, rfl, hb⟩
    · cases h
  | str =>
    intro cs rest vs d us h hr
    unfold dec at h
    split at h
    · simp only [Option.some.injEq, Prod.mk.injEq] at h
      obtain ⟨rfl, rfl, rfl⟩ := h
      obtain ⟨a, b, rfl, ⟨rfl, _⟩, hb⟩ := hr
      exact ⟨_, b, rfl, rfl, hb⟩
    · cases h
  | sl t ih =>
    intro cs rest vs d us h hr
    unfold dec at h
    cases cs with
    | nil => cases h
    | cons c r =>
      simp only at h
      cases hs : slAs look t c with
      | none => rw [hs] at h; cases h
      | some l =>
        rw [hs] at h
        simp only [Option.some.injEq, Prod.mk.injEq] at h
        obtain ⟨rfl, hus, rfl⟩ := h
        obtain ⟨a, b, rfl, ha, hb⟩ := hr
        have hone : ∃ v, a = [v] := by
          have hlen := ha.len
          have : c.size = 1 := by
            unfold slAs at hs
            cases c <;> first | rfl | (simp [sliceOf] at hs)
          rw [this] at hlen
          match a, hlen with
          | [v], _ => exact ⟨v, rfl⟩
        obtain ⟨v, rfl⟩ := hone
        refine ⟨[v], b, rfl, ⟨v, rfl, ?_⟩, hb⟩
        rcases slAs_names hs with hn | hn
        · rw [hn] at hus
          subst hus
          exact (slAs_rel hH hl hs ha).mono (fun _ hg => ⟨hg, rfl⟩) fun _ _ hx => hx.su
        · obtain ⟨rfl, rfl⟩ := hn E v ha
          exact ⟨none, 0, rfl, Nat.le_refl _, fun hne => absurd rfl hne⟩
  | pair t1 t2 ih1 ih2 =>
    intro cs rest vs d us h hr
    unfold dec at h
    cases h1 : dec look t1 cs with
    | none => rw [h1] at h; cases h
    | some x =>
      obtain ⟨x, u, r⟩ := x
      rw [h1] at h
      simp only at h
      cases h2 : dec look t2 r with
      | none => rw [h2] at h; cases h
      | some y =>
        obtain ⟨y, u', r'⟩ := y
        rw [h2] at h
        simp only [Option.some.injEq, Prod.mk.injEq] at h
        obtain ⟨rfl, rfl, rfl⟩ := h
        obtain ⟨a, b, rfl, ha, hb⟩ := ih1 h1 hr
        obtain ⟨a', b', rfl, ha', hb'⟩ := ih2 h2 hb
        exact ⟨a ++ a', b', by simp, ⟨a, a', rfl, ha.su_mono (by simp +contextual), ha'.su_mono (by simp +contextual)⟩, hb'⟩

theorem decAll_rel {E : Env} {look : Nat → Option Blk} (hH : HeapOk E) (hl : ∀ b x, look b = some x → E.H b = some x) {t : Ty} {cs : List Cell} {vs : List Value} {d : Den t} {us : List Nat}
    (h : decAll look t cs = some (d, us)) (hr : IR E cs vs) : CR E.w (SU E us) t d vs := by
  unfold decAll at h
  split at h
  · rename_i x u hd
    simp only [Option.some.injEq, Prod.mk.injEq] at h
    obtain ⟨rfl, rfl⟩ := h
    obtain ⟨a, b, rfl, ha, hb⟩ := dec_rel hH hl hd hr
    simp only [IR] at hb
    subst hb
    simpa using ha
  · cases h

end Go.Fw
