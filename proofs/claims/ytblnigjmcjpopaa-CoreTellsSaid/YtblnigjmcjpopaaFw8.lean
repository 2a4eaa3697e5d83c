/- New blocks; slices made; addresses. -/
import Derived.Test.YtblnigjmcjpopaaFw7
import Derived.Laws.Slices
namespace Go.Fw
set_option linter.unusedVariables false
set_option linter.unusedSimpArgs false

section
variable {P : Program} {T : Tab}

theorem newE_ptr (E : Env) (nm : Nat) (is : List Cell) (w' : World) : AVR (newE E nm (.var is) w') (.cell (.ptr nm 0)) (pt E.w.heap.size 0) :=
  ⟨_, ⟨rfl, rfl⟩, .inr rfl, fun cs _ => ⟨_, by simp [newE], rfl⟩⟩

theorem newE_svar (E : Env) (nm : Nat) (is : List Cell) (w' : World) (n : Nat) : AVR (newE E nm (.var is) w') (.cell (.svar nm 0 n)) (.slice (some ⟨E.w.heap.size, 0, none⟩) n n) :=
  ⟨_, ⟨rfl, rfl⟩, .inr rfl, fun cs _ => ⟨_, n, by simp [newE], rfl, Nat.le_refl _⟩⟩

theorem newE_own (E : Env) (nm : Nat) {t : Ty} {l : List (Den t)} {w' : World} {cs : Array Value} {el : TypeId} {cap : Nat} (hw : w'.heap = E.w.heap.push (.cells cs el)) (h1 : l.length ≤ cap) (h2 : cap * t.size ≤ cs.size) :
    AVR (newE E nm (.arr t l) w') (.cell (.own nm)) (.slice (some ⟨E.w.heap.size, 0, none⟩) l.length cap) := by
  refine ⟨_, ⟨rfl, rfl⟩, .inr rfl, fun u l' h => ?_⟩
  simp only [newE, if_true, Option.some.injEq, Blk.arr.injEq] at h
  obtain ⟨rfl, h⟩ := h
  have h := eq_of_heq h
  subst h
  exact .inr ⟨_, cs, el, cap, by simp [newE], push_new hw, rfl, h1, h2⟩

theorem alloc_run {E : Env} (hT : TabOk P T) (hH : HeapOk E) {t : TypeId} {ti : TI} (h : T.ty t = some ti) {nm : Nat} (hnm : ¬ E.U nm) :
    ∃ E', (Instr.alloc t true (.tuple #[])).run P E.w = .ok (pt E.w.heap.size 0) E'.w ∧ Step E { pre := none, val := .cell (.ptr nm 0), add := [.var ti.zero], set := [] } nm E' ∧ AVR E' (.cell (.ptr nm 0)) (pt E.w.heap.size 0) := by
  obtain ⟨z, hz, hir, _⟩ := (hT.ty t ti h).zero
  refine ⟨newE (killE E []) nm (.var ti.zero) (E.w.alloc (.cells z.cells t)), ?_, Step.newK (us := []) hH rfl rfl hnm rfl rfl rfl rfl (hir _), newE_ptr _ _ _ _⟩
  simp [Instr.alloc, hz, newVar, newRow]
  exact ⟨rfl, rfl⟩

theorem box_run {E : Env} (hH : HeapOk E) (t : TypeId) {x : V1} {v : Value} (hx : V1R E x v) {nm : Nat} (hnm : ¬ E.U nm) :
    ∃ E', (Instr.box t v).run P E.w = .ok (pt E.w.heap.size 0) E'.w ∧ Step E { pre := none, val := .cell (.ptr nm 0), add := [.var x.items], set := [] } nm E' ∧ AVR E' (.cell (.ptr nm 0)) (pt E.w.heap.size 0) := by
  refine ⟨newE (killE E []) nm (.var x.items) (E.w.alloc (.cells v.cells t)), ?_, Step.newK (us := []) hH rfl rfl hnm rfl rfl rfl rfl ((V1R.cells hx).ext (killE_ext [])), newE_ptr _ _ _ _⟩
  simp [Instr.box, newVar, newRow]
  exact ⟨rfl, rfl⟩

theorem ety_ok (hT : TabOk P T) {t : TypeId} {u : Ty} {by_ : Nat} (h : etyOf T t = some (u, by_)) : ∃ e i z, P.underlying t = some (.slice e) ∧ P.info? e = some i ∧ i.zero = some z ∧ i.size = u.size ∧ i.bytes = by_ ∧ z.cells.size = u.size ∧
    (∀ w S, CR w S u (dflt u) z.cells.toList) ∧ (∀ w, (sizeOf e).run P w = .ok u.size w) ∧ ∀ w, (zeroValue e).run P w = .ok z w := by
  unfold etyOf at h
  split at h
  · rename_i e _ _ _ _ _ ht
    have hu := (hT.ty t _ ht).und
    simp only [DescOk] at hu
    cases he : T.ty e with
    | none => rw [he] at h; cases h
    | some ti =>
      rw [he] at h
      simp only at h
      cases hy : ti.ety with
      | none => rw [hy] at h; cases h
      | some u' =>
        rw [hy] at h
        simp only [Option.some.injEq, Prod.mk.injEq] at h
        obtain ⟨rfl, rfl⟩ := h
        have hok := hT.ty e ti he
        obtain ⟨i, z, h1, h2, h3, h4, h5, h6, h7⟩ := hok.inf
        obtain ⟨h8, h9⟩ := h7 u' hy
        exact ⟨e, i, z, hu, h1, h4, h2.trans h8.symm, h3, h6.trans h8.symm, h9, fun w => by rw [h8]; exact hok.sizeOf w, fun w => by simp [zeroValue, typeInfo, h1, h4]⟩
  · cases h

theorem madeCells_flat (z : Array Value) (s : Nat) (hs : z.size = s) : ∀ n : Nat, (madeCells z (n * s)).toList = (List.replicate n z.toList).flatten := by
  intro n
  induction n with
  | zero => simp [madeCells]
  | succ n ih =>
    rw [List.replicate_succ']
    simp only [List.flatten_append, List.flatten_cons, List.flatten_nil, List.append_nil, ← ih]
    simp only [madeCells, Array.toList_map, Array.toList_range, Nat.add_mul, Nat.one_mul, List.range_add, List.map_append, List.map_map]
    congr 1
    apply List.ext_getElem
    · simp [hs]
    · intro i h1 h2
      simp only [List.length_map, List.length_range] at h1
      have e : (n * s + i) % s = i := by rw [Nat.mul_comm, Nat.mul_add_mod]; exact Nat.mod_eq_of_lt h1
      simp [hs, e, getElem!_pos z i (by omega)]

theorem listRel_replicate {w : World} {S : Nat → Prop} {u : Ty} {d : Den u} {zs : List Value} (h : CR w S u d zs) : ∀ n, ListRel (CR w S u) (List.replicate n d) (List.replicate n zs).flatten
  | 0 => rfl
  | n + 1 => ⟨zs, _, rfl, h, listRel_replicate h n⟩

theorem makeSlice_run {E : Env} (hT : TabOk P T) (hH : HeapOk E) {t : TypeId} {l c : AV} {vl vc : Value} {r : Res} {nm : Nat} (hnm : ¬ E.U nm) (h1 : AVR E l vl) (h2 : AVR E c vc)
    (h : makeSliceA T nm t l c = some r) (hp : ∀ p, r.pre = some p → p) : ∃ v E', (Instr.makeSlice t vl vc).run P E.w = .ok v E'.w ∧ Step E r nm E' ∧ AVR E' r.val v := by
  unfold makeSliceA at h
  split at h
  · rename_i u by_ n m he
    simp only [Option.some.injEq] at h
    subst h
    obtain ⟨rfl, h0, hb, h9⟩ := hp _ rfl
    obtain ⟨e, _⟩ := h1
    injection e with e
    subst e
    obtain ⟨e, _⟩ := h2
    injection e with e
    subst e
    obtain ⟨e, i, z, hu, hi, hz, hs, hby, hzs, hcr, _, _⟩ := ety_ok hT he
    subst hby
    have hrun := run_make (P := P) E.w t e i z hu hi hz .i64 .i64 n n h0 (Int.le_refl _) (by rw [Int.mul_comm]; exact hb) (by omega)
    have hcells : (madeCells z.cells (n.toNat * i.size)).toList = (List.replicate n.toNat z.cells.toList).flatten := by rw [hs]; exact madeCells_flat z.cells u.size hzs n.toNat
    refine ⟨_, newE (killE E []) nm (.arr u (List.replicate n.toNat (dflt u))) (E.w.alloc (.cells (madeCells z.cells (n.toNat * i.size)) e)), hrun, Step.newK (us := []) hH rfl rfl hnm rfl rfl rfl rfl ?_, ?_⟩
    · exact ⟨(madeCells z.cells (n.toNat * i.size)).toList, [], by simp, by rw [hcells]; exact listRel_replicate (hcr _ _) n.toNat⟩
    · have := newE_own (killE E []) nm (t := u) (l := List.replicate n.toNat (dflt u)) (w' := E.w.alloc (.cells (madeCells z.cells (n.toNat * i.size)) e)) (cap := n.toNat) (cs := madeCells z.cells (n.toNat * i.size)) (el := e) rfl (by simp) (by simp [size_madeCells, hs])
      simpa [killE] using this
  · cases h

/-- a part laid into a row -/
theorem fold_put : ∀ (vs : List Value) (k off : Nat) (cur : Array Value), off + k + vs.length ≤ cur.size →
    ((vs.zipIdx k).foldl (fun cs (x : Value × Nat) => cs.setIfInBounds (off + x.2) x.1) cur).toList = cur.toList.take (off + k) ++ vs ++ cur.toList.drop (off + k + vs.length)
  | [], k, off, cur, h => by simp
  | v :: vs, k, off, cur, h => by
    simp only [List.zipIdx_cons, List.foldl_cons]
    rw [fold_put vs (k + 1) off _ (by simp at h ⊢; omega)]
    simp only [Array.toList_setIfInBounds, List.length_cons]
    have hlt : off + k < cur.toList.length := by simp at h ⊢; omega
    rw [List.set_eq_take_append_cons_drop, if_pos hlt]
    have e1 : (cur.toList.take (off + k)).length = off + k := by simp; simp at hlt; omega
    rw [show off + (k + 1) = (off + k) + 1 from by omega, List.take_append, List.drop_append, e1]
    simp [show off + k + 1 - (off + k) = 1 from by omega, show off + k + 1 + vs.length - (off + k) = vs.length + 1 from by omega, List.take_take, List.drop_drop, List.drop_of_length_le (show (cur.toList.take (off + k)).length ≤ off + k + 1 + vs.length by omega)]
    congr 1
    omega

theorem fill_elems {size : Nat} : ∀ (parts : List (Nat × Value)) (i : Nat) (cur : Array Value) (a b : List Value), (∀ (k : Nat) p, parts[k]? = some p → p.1 = i + k ∧ p.2.cells.size = size) → cur.toList = a ++ b → a.length = i * size → parts.length * size ≤ b.length →
    ∃ arr, Instr.fill (fun i => some (i * size, size)) cur parts = some arr ∧ arr.toList = a ++ (parts.map fun p => p.2.cells.toList).flatten ++ b.drop (parts.length * size)
  | [], i, cur, a, b, _, hc, _, _ => ⟨cur, rfl, by simp [hc]⟩
  | p :: ps, i, cur, a, b, h, hc, ha, hb => by
    obtain ⟨j, v⟩ := p
    obtain ⟨h1, h2⟩ := h 0 (j, v) rfl
    simp only [Nat.add_zero] at h1 h2
    subst h1
    have hlen : cur.size = a.length + b.length := by
      have := congrArg List.length hc
      simpa using this
    simp only [List.length_cons, Nat.add_mul, Nat.one_mul] at hb
    have hput := fold_put v.cells.toList 0 (j * size) cur (by simp [h2]; omega)
    have hz : v.cells.zipIdx.foldl (fun cs (x : Value × Nat) => cs.setIfInBounds (j * size + x.2) x.1) cur = ((v.cells.toList.zipIdx 0).foldl (fun cs (x : Value × Nat) => cs.setIfInBounds (j * size + x.2) x.1) cur) := by
      rw [← Array.foldl_toList]
      simp
    have e2 : v.cells.toList.length = size := by simpa using h2
    have hnew : ((v.cells.toList.zipIdx 0).foldl (fun cs (x : Value × Nat) => cs.setIfInBounds (j * size + x.2) x.1) cur).toList = (a ++ v.cells.toList) ++ b.drop size := by
      rw [hput, hc, Nat.add_zero, ← ha, e2]
      simp [List.drop_append]
    obtain ⟨arr, h3, h4⟩ := fill_elems ps (j + 1) _ (a ++ v.cells.toList) (b.drop size) (fun k p hp => by obtain ⟨e1, e2⟩ := h (k + 1) p (by simpa using hp); exact ⟨by omega, e2⟩) hnew
      (by simp only [List.length_append, ha, e2, Nat.add_mul, Nat.one_mul]) (by simp; omega)
    refine ⟨arr, ?_, ?_⟩
    · simp only [Instr.fill, h2]
      rw [if_neg (by simp; omega), hz]
      exact h3
    · rw [h4]
      simp [List.drop_drop, Nat.add_mul, Nat.add_comm]

end
end Go.Fw
