/- Values built; what a contract says; calls. -/
import Derived.Test.YtblnigjmcjpopaaFw14
namespace Go.Fw
set_option linter.unusedVariables false
set_option linter.unusedSimpArgs false

section
variable {P : Program} {T : Tab}

theorem places_ok : ∀ (l : List Field), (∀ f ∈ l, ∃ i, P.info? f.type = some i) → ∃ pl, l.mapM (fun f => (P.info? f.type).map fun i => (f.offset, i.size)) = some pl ∧
    ∀ (i : Nat) f, l[i]? = some f → ∃ inf, P.info? f.type = some inf ∧ pl[i]? = some (f.offset, inf.size)
  | [], _ => ⟨[], rfl, fun i f h => by simp at h⟩
  | f :: l, h => by
    obtain ⟨inf, hi⟩ := h f (by simp)
    obtain ⟨pl, h1, h2⟩ := places_ok l fun g hg => h g (by simp [hg])
    refine ⟨(f.offset, inf.size) :: pl, by simp [hi, h1], fun i g hg => ?_⟩
    cases i with
    | zero => simp at hg; subst hg; exact ⟨inf, hi, rfl⟩
    | succ i => exact h2 i g (by simpa using hg)

theorem fillA_rel {E : Env} (hT : TabOk P T) {fs : List (TypeId × Nat)} {place : Nat → Option (Nat × Nat)} (hpl : ∀ i u o ti, fs[i]? = some (u, o) → T.ty u = some ti → place i = some (o, ti.size)) :
    ∀ {ps : List (Nat × AV)} {vs : List (Nat × Value)} {cs0 cs : List Cell} {cur : Array Value}, PsR E ps vs → IR E cs0 cur.toList → fillA T fs ps cs0 = some cs → ∃ arr, Instr.fill place cur vs = some arr ∧ IR E cs arr.toList
  | [], _, cs0, cs, cur, hr, hi, h => by
    simp only [PsR] at hr
    subst hr
    simp only [fillA, Option.some.injEq] at h
    subst h
    exact ⟨cur, rfl, hi⟩
  | (j, x) :: ps, _, cs0, cs, cur, ⟨v, r, e, hx, hr⟩, hi, h => by
    subst e
    cases x with
    | dead => simp [fillA] at h
    | tup _ => simp [fillA] at h
    | one x =>
      unfold fillA at h
      cases hfj : fs[j]? with
      | none => rw [hfj] at h; cases h
      | some uo =>
        obtain ⟨u, o⟩ := uo
        rw [hfj] at h
        simp only at h
        cases hti : T.ty u with
        | none => rw [hti] at h; cases h
        | some ti =>
          rw [hti] at h
          simp only at h
          split at h
          · rename_i hc
            rw [Bool.and_eq_true] at hc
            have hvr := V1R.cells hx
            have hsz1 : sizes x.items = ti.size := by
              have := Nat.eq_of_beq_eq_true hc.1
              rwa [foldl_sizes, Nat.zero_add] at this
            have hpos : 0 < sizes x.items := by
              have := Nat.le_of_ble_eq_true hc.2
              omega
            have hvl : v.cells.size = ti.size := by rw [← hsz1, ← hvr.len]; simp
            cases hs : setItems cs0 o x.items with
            | none => rw [hs] at h; cases h
            | some cs1 =>
              rw [hs] at h
              simp only at h
              have hj := setItems_le hvr hi hs hpos
              obtain ⟨p, q, s, e, hp1, hq, hir, _⟩ := setItems_rel hvr hi hs hj
              have hq' : q.length = v.cells.size := by simpa using hq
              have hlen : cur.size = p.length + q.length + s.length := by
                have := congrArg List.length e
                simpa [Nat.add_assoc] using this
              have hput := fold_put v.cells.toList 0 o cur (by simp; omega)
              have hz : v.cells.zipIdx.foldl (fun cs (x : Value × Nat) => cs.setIfInBounds (o + x.2) x.1) cur = ((v.cells.toList.zipIdx 0).foldl (fun cs (x : Value × Nat) => cs.setIfInBounds (o + x.2) x.1) cur) := by
                rw [← Array.foldl_toList]
                simp
              have hnew : ((v.cells.toList.zipIdx 0).foldl (fun cs (x : Value × Nat) => cs.setIfInBounds (o + x.2) x.1) cur).toList = p ++ v.cells.toList ++ s := by
                rw [hput, e, Nat.add_zero, ← hp1]
                exact take_drop_mid p q s v.cells.toList (by simpa using hq'.symm)
              obtain ⟨arr, h1, h2⟩ := fillA_rel hT hpl hr (by rw [hnew]; exact hir) h
              refine ⟨arr, ?_, h2⟩
              simp only [Instr.fill, hpl j u o ti hfj hti]
              rw [if_neg (by simp [hvl]; omega), hz]
              exact h1
          · cases h

theorem asIntK_rel {E : Env} {a : AV} {v : Value} {k : IntKind} {y : Int} (h : asIntK a = some (k, y)) (ha : AVR E a v) : v = .int k y := by
  unfold asIntK at h
  split at h
  · simp only [Option.some.injEq, Prod.mk.injEq] at h
    obtain ⟨rfl, rfl⟩ := h
    obtain ⟨e, _⟩ := ha
    injection e with e
  · cases h

theorem fillRun_rel {E : Env} {k : IntKind} {n : Nat} : ∀ {ps : List (Nat × AV)} {vs : List (Nat × Value)} {l l' : List Int} {cur : Array Value}, PsR E ps vs → l.length = n → cur.toList = l.map (.int k) → fillRun k n ps l = some l' →
    ∃ arr, Instr.fill (fun i => some (i * 1, 1)) cur vs = some arr ∧ l'.length = n ∧ arr.toList = l'.map (.int k)
  | [], _, l, l', cur, hr, hl, hc, h => by
    simp only [PsR] at hr
    subst hr
    simp only [fillRun, Option.some.injEq] at h
    subst h
    exact ⟨cur, rfl, hl, hc⟩
  | (j, x) :: ps, _, l, l', cur, ⟨v, r, e, hx, hr⟩, hl, hc, h => by
    subst e
    unfold fillRun at h
    cases hi : asIntK x with
    | none => rw [hi] at h; cases h
    | some ky =>
      obtain ⟨k', y⟩ := ky
      rw [hi] at h
      simp only at h
      split at h
      · rename_i hcnd
        rw [Bool.and_eq_true] at hcnd
        have hk : k' = k := of_decide_eq_true hcnd.1
        have hj : j < n := Nat.le_of_ble_eq_true hcnd.2
        subst hk
        have hv := asIntK_rel hi hx
        subst hv
        have hcs : cur.size = n := by
          have := congrArg List.length hc
          simpa [hl] using this
        obtain ⟨arr, h1, h2, h3⟩ := fillRun_rel (cur := cur.setIfInBounds j (.int k' y)) hr (l := l.set j y) (by simpa using hl) (by simp [hc, List.map_set]) h
        refine ⟨arr, ?_, h2, h3⟩
        simp only [Instr.fill]
        rw [if_neg (by simp [Value.cells]; omega)]
        simpa [Value.cells] using h1
      · cases h

theorem build_run {E : Env} (hT : TabOk P T) {t : TypeId} {ps : List (Nat × AV)} {vs : Array (Nat × Value)} {r : Res} (hr : PsR E ps vs.toList) (h : buildA T t ps = some r) :
    ∃ v, (Instr.build t vs).run P E.w = .ok v E.w ∧ AVR E r.val v ∧ r.add = [] ∧ r.set = [] ∧ r.pre = none := by
  unfold buildA at h
  split at h
  · rename_i fs sz by_ z ety cmp ht
    have hok := hT.ty t _ ht
    have hu := hok.und
    simp only [DescOk] at hu
    obtain ⟨F, hF, hfs, hinf⟩ := hu
    obtain ⟨it, zv, h1, h2, h3, h4, h5, h6, _⟩ := hok.inf
    cases hfl : fillA T fs ps z with
    | none => rw [hfl] at h; cases h
    | some cs =>
      rw [hfl] at h
      simp only [ok1, Option.some.injEq] at h
      subst h
      obtain ⟨pl, hpl1, hpl2⟩ := places_ok (P := P) F.toList (fun f hf => hinf f (by simpa using hf))
      obtain ⟨arr, ha, hir⟩ := fillA_rel (E := E) (place := fun x => pl[x]?) hT (fun i u o ti hfo hti => by
        obtain ⟨f, g1, g2, g3⟩ := hfs i u o hfo
        obtain ⟨inf, g4, g5⟩ := hpl2 i f (by simpa using g1)
        obtain ⟨i', z', k1, k2, _⟩ := (hT.ty u ti hti).inf
        rw [g2] at g4
        rw [g4] at k1
        injection k1 with k1
        subst k1
        simp [g5, g3, k2]) hr (h5 E) hfl
      refine ⟨.agg arr, run_build E.w t vs arr ?_, ⟨arr, rfl, hir⟩, rfl, rfl, rfl⟩
      simp [Program.built, h1, hF, h4, hpl1]
      exact ha
  · rename_i m e sz by_ k n l ety cmp ht
    have hok := hT.ty t _ ht
    have hu := hok.und
    simp only [DescOk] at hu
    obtain ⟨it, zv, h1, h2, h3, h4, h5, h6, _⟩ := hok.inf
    cases hti : T.ty e with
    | none => rw [hti] at h; cases h
    | some ti =>
      rw [hti] at h
      simp only at h
      split at h
      · rename_i hs
        have hs1 := Nat.eq_of_beq_eq_true hs
        cases hfl : fillRun k n ps l with
        | none => rw [hfl] at h; cases h
        | some l' =>
          rw [hfl] at h
          simp only [ok1, Option.some.injEq] at h
          subst h
          obtain ⟨ie, ze, k1, k2, _⟩ := (hT.ty e ti hti).inf
          obtain ⟨a, b, e1, ⟨hln, e2⟩, e3⟩ := h5 E
          simp only [IR] at e3
          subst e3
          obtain ⟨arr, ha, hl', hal⟩ := fillRun_rel (k := k) (n := n) (cur := zv.cells) hr hln (by rw [e1, e2]; simp) hfl
          refine ⟨.agg arr, run_build E.w t vs arr ?_, ⟨arr, rfl, _, [], by rw [hal]; simp, ⟨hl', rfl⟩, rfl⟩, rfl, rfl, rfl⟩
          simp [Program.built, h1, hu, h4, k1, k2.trans hs1]
          simpa using ha
      · cases h
  · cases h

end
end Go.Fw
