/- Slice literals, slicing, addresses, parts of values. -/
import Derived.Test.YtblnigjmcjpopaaFw8
namespace Go.Fw
set_option linter.unusedVariables false
set_option linter.unusedSimpArgs false

section
variable {P : Program} {T : Tab}

/-- parts of a literal, abstract and real -/
def PsR (E : Env) : List (Nat × AV) → List (Nat × Value) → Prop
  | [], vs => vs = []
  | (i, x) :: ps, vs => ∃ v r, vs = (i, v) :: r ∧ AVR E x v ∧ PsR E ps r

theorem PsR.len {E : Env} : ∀ {ps : List (Nat × AV)} {vs : List (Nat × Value)}, PsR E ps vs → vs.length = ps.length
  | [], _, h => by simp only [PsR] at h; subst h; rfl
  | (i, x) :: ps, _, ⟨v, r, e, _, h⟩ => by subst e; simp [h.len]

theorem elemsA_rel {E : Env} {look : Nat → Option Blk} (hH : HeapOk E) (hl : ∀ b x, look b = some x → E.H b = some x) {u : Ty} : ∀ {ps : List (Nat × AV)} {vs : List (Nat × Value)} {i : Nat} {ds : List (Den u)} {us : List Nat}, PsR E ps vs → elemsA look u i ps = some (ds, us) →
    (∀ (k : Nat) p, vs[k]? = some p → p.1 = i + k ∧ p.2.cells.size = u.size) ∧ ListRel (CR E.w (SU E us) u) ds (vs.map fun p => p.2.cells.toList).flatten
  | [], _, i, ds, us, hr, h => by
    simp only [PsR] at hr
    subst hr
    simp only [elemsA, Option.some.injEq, Prod.mk.injEq] at h
    obtain ⟨rfl, rfl⟩ := h
    exact ⟨fun k p h => by simp at h, rfl⟩
  | (j, x) :: ps, _, i, ds, us, ⟨v, r, e, hx, hr⟩, h => by
    subst e
    cases x with
    | dead => simp [elemsA] at h
    | tup _ => simp [elemsA] at h
    | one x =>
      simp only [elemsA] at h
      cases hj : Nat.beq i j with
      | false => rw [hj] at h; cases h
      | true =>
        rw [hj] at h
        simp only at h
        obtain rfl := Nat.eq_of_beq_eq_true hj
        cases hd : decAll look u x.items with
        | none => rw [hd] at h; cases h
        | some du =>
          obtain ⟨d, us1⟩ := du
          rw [hd] at h
          simp only at h
          cases he : elemsA look u (i + 1) ps with
          | none => rw [he] at h; cases h
          | some y =>
            obtain ⟨ds', us2⟩ := y
            rw [he] at h
            simp only [Option.some.injEq, Prod.mk.injEq] at h
            obtain ⟨rfl, rfl⟩ := h
            obtain ⟨h1, h2⟩ := elemsA_rel hH hl hr he
            have hcr := decAll_rel hH hl hd (V1R.cells hx)
            refine ⟨fun k p hk => ?_, ⟨_, _, rfl, hcr.su_mono (by simp +contextual), h2.mono fun _ _ hx => hx.su_mono (by simp +contextual)⟩⟩
            cases k with
            | zero =>
              simp at hk
              subst hk
              exact ⟨rfl, by simpa using hcr.len⟩
            | succ k =>
              obtain ⟨e1, e2⟩ := h1 k p (by simpa using hk)
              exact ⟨by omega, e2⟩

/-- a slice literal, each element as many cells as its type has -/
theorem lit_run (hT : TabOk P T) {t : TypeId} {u : Ty} {by_ : Nat} (he : etyOf T t = some (u, by_)) {n : Nat} {vs : Array (Nat × Value)} (hn : n = vs.size) (hsm : n * u.size < 16777216) (hpos : 0 < u.size)
    (h1 : ∀ (k : Nat) p, vs.toList[k]? = some p → p.1 = 0 + k ∧ p.2.cells.size = u.size) (w : World) :
    ∃ (arr : Array Value) (e : TypeId), (Instr.buildSlice t n vs).run P w = .ok (.slice (some ⟨w.heap.size, 0, none⟩) n n) (w.alloc (.cells arr e)) ∧ arr.toList = (vs.toList.map fun p => p.2.cells.toList).flatten := by
  obtain ⟨e, i, z, hu, hi, hz, hs, hby, hzs, hcr, hso, hze⟩ := ety_ok hT he
  have hvl : vs.toList.length = n := by simp [hn]
  obtain ⟨arr, ha, hal⟩ := fill_elems (size := u.size) vs.toList 0 (madeCells z.cells (n * u.size)) [] (madeCells z.cells (n * u.size)).toList (fun k p hk => by simpa using h1 k p hk) rfl (by simp) (by simp [size_madeCells, hn])
  have hal' : arr.toList = (vs.toList.map fun p => p.2.cells.toList).flatten := by
    rw [hal]
    simp [hn, size_madeCells]
  refine ⟨arr, e, ?_, hal'⟩
  by_cases h0 : n = 0
  · subst h0
    have hv0 : vs = #[] := by
      have : vs.toList = [] := List.eq_nil_of_length_eq_zero (by omega)
      simpa using this
    subst hv0
    have : arr = #[] := by simpa using hal'
    subst this
    simp [Instr.buildSlice, run_underlying hu, hso, Instr.fill, newRow, Array.range_zero']
  · have hne : ¬ n * u.size = 0 := by
      intro e0
      rcases Nat.mul_eq_zero.1 e0 with e0 | e0 <;> omega
    exact run_buildSlice w t e n vs arr i z hu hi hz (by rw [hs]; omega) (by rw [hs]; exact hne) (by rw [hs]; exact ha)

theorem subsA_rel {E : Env} : ∀ {ps : List (Nat × AV)} {vs : List (Nat × Value)} {i : Nat} {cs : List Cell}, PsR E ps vs → subsA i ps = some cs →
    (∀ (k : Nat) p, vs[k]? = some p → p.1 = i + k ∧ p.2.cells.size = 1) ∧ IR E cs (vs.map fun p => p.2.cells.toList).flatten
  | [], _, i, cs, hr, h => by
    simp only [PsR] at hr
    subst hr
    simp only [subsA, Option.some.injEq] at h
    subst h
    exact ⟨fun k p h => by simp at h, rfl⟩
  | (j, x) :: ps, _, i, cs, ⟨v, r, e, hx, hr⟩, h => by
    subst e
    unfold subsA at h
    split at h
    · rename_i h'; cases h'
    · rename_i b o l r' h'
      injection h' with h' h''
      injection h' with e1 e2
      subst e1; subst e2; subst h''
      split at h
      · rename_i hj
        obtain rfl := Nat.eq_of_beq_eq_true hj
        split at h
        · rename_i cs' hcs
          injection h with h
          subst h
          obtain ⟨h1, h2⟩ := subsA_rel hr hcs
          obtain ⟨v', ⟨ev, hv1⟩, hrest⟩ := hx
          injection ev with ev
          subst ev
          have hc1 : v.cells = #[v] := by
            cases v <;> simp_all [Value.cells, Value.oneCell']
          refine ⟨fun k p hk => ?_, [v], _, by simp [hc1], ⟨v, ⟨rfl, hv1⟩, hrest⟩, h2⟩
          cases k with
          | zero =>
            simp at hk
            subst hk
            exact ⟨rfl, by simp [hc1]⟩
          | succ k =>
            obtain ⟨e1, e2⟩ := h1 k p (by simpa using hk)
            exact ⟨by omega, e2⟩
        · cases h
      · cases h
    · cases h

theorem buildSlice_run {E : Env} {look : Nat → Option Blk} (hT : TabOk P T) (hH : HeapOk E) (hl : ∀ b x, look b = some x → E.H b = some x) {t : TypeId} {n : Nat} {ps : List (Nat × AV)} {vs : Array (Nat × Value)} {r : Res} {nm : Nat} (hnm : ¬ E.U nm) (hr : PsR E ps vs.toList)
    (h : buildSliceA T look nm t n ps = some r) : ∃ v E', (Instr.buildSlice t n vs).run P E.w = .ok v E'.w ∧ Step E r nm E' ∧ AVR E' r.val v := by
  unfold buildSliceA at h
  cases he : etyOf T t with
  | none => rw [he] at h; cases h
  | some ub =>
    obtain ⟨u, by_⟩ := ub
    rw [he] at h
    simp only at h
    split at h
    · rename_i hc
      simp only [Bool.and_eq_true] at hc
      obtain ⟨⟨hc1, hc2⟩, hc3⟩ := hc
      have hn := Nat.eq_of_beq_eq_true hc1
      have hsm : n * u.size < 16777216 := Nat.le_of_ble_eq_true hc2
      have hpos : 0 < u.size := Nat.le_of_ble_eq_true hc3
      cases hsu : subsOf u ps with
      | some cs =>
        rw [hsu] at h
        simp only [Option.some.injEq] at h
        subst h
        have hu1 : u.size = 1 := by cases u <;> first | rfl | (simp [subsOf] at hsu; done)
        have hsa : subsA 0 ps = some cs := by
          unfold subsOf at hsu
          split at hsu
          · exact hsu
          · cases hsu
        obtain ⟨h1, h2⟩ := subsA_rel hr hsa
        have hvl := hr.len
        obtain ⟨arr, e, hrun, hal⟩ := lit_run (P := P) hT he (n := n) (vs := vs) (by simp at hvl; omega) hsm hpos (by rw [hu1]; exact h1) E.w
        refine ⟨_, newE (killE E []) nm (.var cs) (E.w.alloc (.cells arr e)), hrun, Step.newK (us := []) hH rfl rfl hnm rfl rfl rfl rfl ?_, newE_svar _ _ _ _ _⟩
        show IR (killE E []) cs arr.toList
        rw [hal]
        exact h2.ext (killE_ext [])
      | none =>
      rw [hsu] at h
      simp only at h
      cases hel : elemsA look u 0 ps with
      | none => rw [hel] at h; cases h
      | some y =>
        obtain ⟨ds, us⟩ := y
        rw [hel] at h
        simp only [Option.some.injEq] at h
        subst h
        obtain ⟨h1, h2⟩ := elemsA_rel hH hl hr hel
        obtain ⟨e, i, z, hu, hi, hz, hs, hby, hzs, hcr, hso, hze⟩ := ety_ok hT he
        have hvl := hr.len
        obtain ⟨arr, ha, hal⟩ := fill_elems (size := u.size) vs.toList 0 (madeCells z.cells (n * u.size)) [] (madeCells z.cells (n * u.size)).toList (fun k p hk => by simpa using h1 k p hk) rfl (by simp) (by simp [size_madeCells, hn]; simp at hvl; rw [hvl]; exact Nat.le_refl _)
        have hal' : arr.toList = (vs.toList.map fun p => p.2.cells.toList).flatten := by
          rw [hal]
          simp [hvl, ← hn, size_madeCells]
        have hdl : ds.length = n := by
          have := h2.len (n := u.size) (fun _ _ hx => hx.len)
          have h3 := congrArg List.length hal
          have h4 : arr.toList.length = n * u.size := by
            rw [hal]
            simp [size_madeCells]
            have h5 : ((vs.toList.map fun p => p.2.cells.toList).flatten).length = n * u.size := by
              have : ∀ (l : List (Nat × Value)), (∀ p ∈ l, p.2.cells.size = u.size) → ((l.map fun p => p.2.cells.toList).flatten).length = l.length * u.size := by
                intro l
                induction l with
                | nil => intro _; simp
                | cons p l ih => intro hp; simp [List.flatten_cons, hp p (by simp), Nat.add_mul, Nat.add_comm] at ih ⊢; rw [ih fun a b hb => hp (a, b) (by simp [hb])]
              rw [this vs.toList (fun p hp => by obtain ⟨k, hk⟩ := List.mem_iff_getElem?.1 hp; exact (h1 k p hk).2), hvl, hn]
            simp at hvl h5
            rw [hvl, ← hn]
            omega
          rw [hal'] at h4
          rw [h4] at this
          exact (Nat.eq_of_mul_eq_mul_right hpos this).symm
        have hrun : (Instr.buildSlice t n vs).run P E.w = .ok (.slice (some ⟨E.w.heap.size, 0, none⟩) n n) (E.w.alloc (.cells arr e)) := by
          by_cases h0 : n = 0
          · subst h0
            have hv0 : vs = #[] := by
              have : vs.toList = [] := List.eq_nil_of_length_eq_zero (by omega)
              simpa using this
            subst hv0
            have : arr = #[] := by simpa using hal'
            subst this
            simp [Instr.buildSlice, run_underlying hu, hso, Instr.fill, newRow, Array.range_zero']
          · have hne : ¬ n * u.size = 0 := by
              intro e0
              rcases Nat.mul_eq_zero.1 e0 with e0 | e0 <;> omega
            exact run_buildSlice E.w t e n vs arr i z hu hi hz (by rw [hs]; omega) (by rw [hs]; exact hne) (by rw [hs]; exact ha)
        refine ⟨_, newE (killE E us) nm (.arr u ds) (E.w.alloc (.cells arr e)), hrun, Step.newK (us := us) hH rfl rfl hnm rfl rfl rfl rfl ?_, ?_⟩
        · exact ⟨arr.toList, [], by simp, by rw [hal']; exact h2⟩
        · have := newE_own (killE E us) nm (t := u) (l := ds) (w' := E.w.alloc (.cells arr e)) (cap := n) (cs := arr) (el := e) rfl (by omega) (by
            have := h2.len (n := u.size) (fun _ _ hx => hx.len)
            rw [← hal', hdl] at this
            simp at this
            omega)
          simpa [killE, hdl] using this
    · cases h

theorem sb (k : IntKind) (i : Int) (y : Nat) (code : BoundsCode) (h0 : 0 ≤ i) (h1 : i ≤ y) (w : World) : (Instr.sliceBound (.int k i) y code).run P w = .ok i.toNat w := by
  simp [Instr.sliceBound, asIntOf, h0, h1]

def OptR (E : Env) : Option AV → Option Value → Prop
  | none, none => True
  | some x, some v => AVR E x v
  | _, _ => False

theorem boundsA_run {E : Env} {len : Nat} {lo hi : Option AV} {vlo vhi : Option Value} {p : Prop} {a b : Nat} (h1 : OptR E lo vlo) (h2 : OptR E hi vhi) (h : boundsA len lo hi = some (p, a, b)) (hp : p) :
    a ≤ b ∧ b ≤ len ∧ ∀ (isSl : Bool) (cap : Nat) (w : World), len ≤ cap → (Instr.sliceBounds isSl len cap vlo vhi none).run P w = .ok (a, b, cap) w := by
  unfold boundsA at h
  split at h
  · simp only [Option.some.injEq, Prod.mk.injEq] at h
    obtain ⟨rfl, rfl, rfl⟩ := h
    cases vlo <;> cases vhi <;> simp only [OptR] at h1 h2
    exact ⟨Nat.zero_le _, Nat.le_refl _, fun isSl cap w hc => by simp [Instr.sliceBounds]⟩
  · simp only [Option.some.injEq, Prod.mk.injEq] at h
    obtain ⟨rfl, rfl, rfl⟩ := h
    cases vlo with
    | none => simp only [OptR] at h1
    | some v =>
      cases vhi with
      | some _ => simp only [OptR] at h2
      | none =>
        obtain ⟨e, _⟩ := h1
        injection e with e
        subst e
        exact ⟨by omega, Nat.le_refl _, fun isSl cap w hc => by simp [Instr.sliceBounds, sb _ _ _ _ hp.1 hp.2]⟩
  · simp only [Option.some.injEq, Prod.mk.injEq] at h
    obtain ⟨rfl, rfl, rfl⟩ := h
    cases vhi with
    | none => simp only [OptR] at h2
    | some v =>
      cases vlo with
      | some _ => simp only [OptR] at h1
      | none =>
        obtain ⟨e, _⟩ := h2
        injection e with e
        subst e
        exact ⟨Nat.zero_le _, by omega, fun isSl cap w hc => by simp [Instr.sliceBounds, sb _ _ _ _ hp.1 (show _ ≤ (cap : Int) by omega)]⟩
  · simp only [Option.some.injEq, Prod.mk.injEq] at h
    obtain ⟨rfl, rfl, rfl⟩ := h
    cases vhi with
    | none => simp only [OptR] at h2
    | some v =>
      cases vlo with
      | none => simp only [OptR] at h1
      | some v' =>
        obtain ⟨e, _⟩ := h2
        injection e with e
        subst e
        obtain ⟨e, _⟩ := h1
        injection e with e
        subst e
        obtain ⟨p1, p2, p3⟩ := hp
        refine ⟨by omega, by omega, fun isSl cap w hc => ?_⟩
        have h0 := Int.le_trans p1 p2
        simp [Instr.sliceBounds, sb _ _ _ _ h0 (show _ ≤ (cap : Int) by omega), sb _ _ _ _ p1 (Int.le_trans p2 (Int.self_le_toNat _))]
  · cases h

theorem elem_of {t e : TypeId} (h : P.underlying t = some (.slice e)) : P.elem t = e := by simp [Program.elem, h]

end
end Go.Fw
