/- Stores; new blocks. -/
import Derived.Test.YtblnigjmcjpopaaFw6
import Derived.Great.BuildSlice
namespace Go.Fw
set_option linter.unusedVariables false
set_option linter.unusedSimpArgs false

section
variable {P : Program} {T : Tab}

theorem V1R.cells {E : Env} : {x : V1} → {v : Value} → V1R E x v → IR E x.items v.cells.toList
  | .c c, v, h => by
    have h1 := CellR.ones (c := c) h v (by simp)
    have : v.cells = #[v] := by cases v <;> first | rfl | (simp [Value.oneCell'] at h1)
    rw [this]
    exact ⟨[v], [], rfl, h, rfl⟩
  | .agg cs, _, ⟨vals, e, h⟩ => by subst e; exact h

theorem take_drop_mid (a r b x : List Value) (h : x.length = r.length) : (a ++ r ++ b).take a.length ++ x ++ (a ++ r ++ b).drop (a.length + x.length) = a ++ x ++ b := by
  simp [h, List.drop_append]

theorem mid_set (a m b : List Value) (i : Nat) (v : Value) (hi : i < m.length) : (a ++ m ++ b).take (a.length + i) ++ [v] ++ (a ++ m ++ b).drop (a.length + i + 1) = a ++ m.set i v ++ b := by
  rw [List.set_eq_take_append_cons_drop, if_pos hi]
  simp [List.take_append, List.drop_append, Nat.add_assoc, show a.length + (i + 1) - a.length = i + 1 from by omega, show i - m.length = 0 from by omega, show i + 1 - m.length = 0 from by omega,
    List.take_of_length_le (show a.length ≤ a.length + i by omega), List.drop_of_length_le (show a.length ≤ a.length + (i + 1) by omega)]

theorem setItems_le {E : Env} {xs cs cs' : List Cell} {xvs vs : List Value} {j : Nat} (hx : IR E xs xvs) (h1 : IR E cs vs) (h : setItems cs j xs = some cs') (hne : 0 < sizes xs) : j ≤ vs.length := by
  cases xs with
  | nil => simp [sizes] at hne
  | cons c r =>
    unfold setItems at h
    cases h9 : setItem cs j c with
    | none => rw [h9] at h; cases h
    | some _ =>
      obtain ⟨xv, _, _, hxv, _⟩ := hx
      obtain ⟨p, q, s, rfl, hp1, _⟩ := setItem_rel hxv h1 h9
      simp
      omega

theorem store_raw {E : Env} {g j : Nat} {cs : Array Value} {el : TypeId} (hg : E.w.heap[g]? = some (.cells cs el (0, 0))) {t : TypeId} {ti : TI} (hok : TyOk P t ti) {vx : Value} (hsz : vx.cells.size = ti.size) (h1 : ∀ u ∈ vx.cells.toList, u.oneCell' = true) (hfit : j + vx.cells.size ≤ cs.size) :
    (Instr.storeAt t (pt g j) vx).run P E.w = .ok () (E.w.setRow g (cs.toList.take j ++ vx.cells.toList ++ cs.toList.drop (j + vx.cells.size)).toArray) := by
  have hst := run_storeCells_at P g j el vx.cells.toList 0 cs E.w hg (by simpa using hfit) h1
  simp only [Nat.add_zero, Array.length_toList] at hst
  simp [Instr.storeAt, Instr.sureAddr, pt, storeVar, hok.sizeOf, hsz, hst]

theorem store_run {E : Env} {look : Nat → Option Blk} (hT : TabOk P T) (hH : HeapOk E) (hl : ∀ b x, look b = some x → E.H b = some x) {t : TypeId} {a x : AV} {va vx : Value} {r : Res} {nm : Nat} (ha : AVR E a va) (hx : AVR E x vx)
    (h : storeA T look t a x = some r) (hp : ∀ p, r.pre = some p → p) : ∃ E', (Instr.storeAt t va vx).run P E.w = .ok () E'.w ∧ Step E r nm E' ∧ r.val = .dead := by
  unfold storeA at h
  cases hti : T.ty t with
  | none => rw [hti] at h; cases h
  | some ti =>
    rw [hti] at h
    simp only at h
    have hok := hT.ty t ti hti
    cases x with
    | dead => cases h
    | tup _ => cases h
    | one v =>
      simp only at h
      have hvr := V1R.cells (E := E) (x := v) hx
      cases hsz : Nat.beq (v.items.foldl (fun n c => n + c.size) 0) ti.size && Nat.blt 0 ti.size with
      | false => rw [hsz] at h; cases h
      | true =>
        rw [hsz] at h
        simp only at h
        rw [Bool.and_eq_true] at hsz
        have hsz1 : sizes v.items = ti.size := by
          have := Nat.eq_of_beq_eq_true hsz.1
          rwa [foldl_sizes, Nat.zero_add] at this
        have hpos : 0 < sizes v.items := by
          have := Nat.le_of_ble_eq_true hsz.2
          omega
        have hsz' : vx.cells.size = ti.size := by
          rw [← hsz1, ← hvr.len]
          simp
        have hones := hvr.ones
        match a, h, ha with
        | .one (.c (.ptr b j)), h, ha =>
          simp only at h
          cases hb : look b with
          | none => rw [hb] at h; cases h
          | some y =>
            rw [hb] at h
            cases y with
            | arr _ _ => cases h
            | mp _ _ _ _ => cases h
            | var cs =>
              simp only at h
              have hbx := hl _ _ hb
              obtain ⟨_, ⟨g', cs', el', h6, h7, h8⟩, _⟩ := hH.blk _ _ hbx
              obtain ⟨v', ⟨e, _⟩, hu, hh⟩ := ha
              injection e with e
              subst e
              obtain ⟨g, h1, rfl⟩ := hh _ hbx
              rw [h1] at h6; injection h6 with h6; subst h6
              cases hs : setItems cs j v.items with
              | none => rw [hs] at h; cases h
              | some cs2 =>
                rw [hs] at h
                simp only [Option.some.injEq] at h
                subst h
                have hj := setItems_le hvr h8 hs hpos
                obtain ⟨p, q, s, e, hp1, hq, hir, hmap⟩ := setItems_rel hvr h8 hs hj
                have hlen : cs'.size = p.length + q.length + s.length := by
                  have := congrArg List.length e
                  simpa [Nat.add_assoc] using this
                have hq' : q.length = vx.cells.size := by simpa using hq
                have hraw := store_raw (P := P) h7 (j := j) hok hsz' hones (by omega)
                have enew : cs'.toList.take j ++ vx.cells.toList ++ cs'.toList.drop (j + vx.cells.size) = p ++ vx.cells.toList ++ s := by
                  rw [e, ← hp1]
                  exact take_drop_mid p q s vx.cells.toList (by simpa using hq'.symm)
                rw [enew] at hraw
                refine ⟨_, hraw, Step.setK (us := []) (x := .var cs) (blk := .var cs2) (cs' := (p ++ vx.cells.toList ++ s).toArray) hH rfl rfl (by simp) hbx h1 (by simp [shape, hmap]) (writes_setRow h7 (by simp; omega)) ?_, rfl⟩
                show IR (killE E []) cs2 _
                exact (hir.ext (killE_ext []))
        | .one (.c (.pidx b j i)), h, ha =>
          simp only at h
          cases hb : look b with
          | none => rw [hb] at h; cases h
          | some y =>
            rw [hb] at h
            cases y with
            | arr _ _ => cases h
            | mp _ _ _ _ => cases h
            | var cs =>
              simp only at h
              have hbx := hl _ _ hb
              obtain ⟨_, ⟨g', cs', el', h6, h7, h8⟩, _⟩ := hH.blk _ _ hbx
              obtain ⟨v', ⟨e, _⟩, hu, hh⟩ := ha
              injection e with e
              subst e
              obtain ⟨g, h1, rfl⟩ := hh _ hbx
              rw [h1] at h6; injection h6 with h6; subst h6
              split at h
              · rename_i k n l k' y hit hv
                cases hk : kindEq k' k with
                | false => rw [hk] at h; cases h
                | true =>
                  rw [hk] at h
                  simp only at h
                  have hkk : k' = k := of_decide_eq_true hk
                  subst hkk
                  cases hs : setItem cs j (.run k' n (l.set i y)) with
                  | none => rw [hs] at h; cases h
                  | some cs2 =>
                    rw [hs] at h
                    simp only [Option.some.injEq] at h
                    subst h
                    have hi : i < n := hp _ rfl
                    obtain ⟨p0, q0, s0, e0, hp0, hln, rfl⟩ := itemAt_rel h8 hit
                    have hrel : CellR E (.run k' n (l.set i y)) ((l.set i y).map (.int k')) := ⟨by simpa using hln, rfl⟩
                    obtain ⟨p, q, s, e, hp1, hq, hir, hmap⟩ := setItem_rel hrel h8 hs
                    rw [e0] at e
                    obtain ⟨rfl, rfl, rfl⟩ := append3_inj e (by rw [hp0, hp1]) (by simp [hq, Cell.size, hln])
                    obtain ⟨hvx, _⟩ := (show vx = .int k' y ∧ True by
                      have : CellR E (.imm (.int k' y)) [vx] := hx
                      obtain ⟨e, _⟩ := this
                      injection e with e
                      exact ⟨e, trivial⟩)
                    subst hvx
                    have hlen : cs'.size = p0.length + l.length + s0.length := by
                      have := congrArg List.length e0
                      simpa [Nat.add_assoc] using this
                    have hraw := store_raw (P := P) h7 (j := j + i) hok hsz' hones (by simp [Value.cells]; omega)
                    have enew : cs'.toList.take (j + i) ++ (Value.int k' y).cells.toList ++ cs'.toList.drop (j + i + (Value.int k' y).cells.size) = p0 ++ (l.set i y).map (.int k') ++ s0 := by
                      rw [e0, ← hp0, List.map_set]
                      exact mid_set p0 _ s0 i _ (by simp; omega)
                    rw [enew] at hraw
                    refine ⟨_, hraw, Step.setK (us := []) (x := .var cs) (blk := .var cs2) (cs' := (p0 ++ (l.set i y).map (Value.int k') ++ s0).toArray) hH rfl rfl (by simp) hbx h1 (by simp [shape, hmap]) (writes_setRow h7 (by simp; omega)) ?_, rfl⟩
                    show IR (killE E []) cs2 _
                    exact (hir.ext (killE_ext []))
              · cases h
        | .one (.c (.pel b i j)), h, ha =>
          simp only at h
          cases hb : look b with
          | none => rw [hb] at h; cases h
          | some y =>
            rw [hb] at h
            cases y with
            | var _ => cases h
            | mp _ _ _ _ => cases h
            | arr u l =>
              simp only at h
              have hbx := hl _ _ hb
              obtain ⟨_, hbr, _⟩ := hH.blk _ _ hbx
              obtain ⟨v', ⟨e, _⟩, hu, hh⟩ := ha
              injection e with e
              subst e
              cases hs : setItems (cells u (l.getD i (dflt u))) j v.items with
              | none => rw [hs] at h; cases h
              | some cs2 =>
                rw [hs] at h
                simp only at h
                cases hd : decAll look u cs2 with
                | none => rw [hd] at h; cases h
                | some du =>
                  obtain ⟨d, us⟩ := du
                  rw [hd] at h
                  simp only at h
                  cases hc : us.contains b with
                  | true => rw [hc] at h; cases h
                  | false =>
                    rw [hc] at h
                    simp only [Option.some.injEq] at h
                    subst h
                    have hi : i < l.length := hp _ rfl
                    obtain ⟨g, h1, rfl⟩ := hh _ _ hbx hi
                    rcases hbr with ⟨h6, rfl⟩ | ⟨g', cs', el', us0, spare, h6, h7, h8, h9⟩
                    · simp at hi
                    rw [h1] at h6; injection h6 with h6; subst h6
                    obtain ⟨p, q, s, rfl, hp1, hq⟩ := h9.get (fun _ _ hx => hx.len) hi
                    have hg : l.getD i (dflt u) = l[i] := by simp [List.getD, List.getElem?_eq_getElem hi]
                    rw [hg] at hs
                    have hj := setItems_le hvr hq.items hs hpos
                    obtain ⟨p1, q1, s1, e, hp2, hq1, hir, hmap⟩ := setItems_rel hvr hq.items hs hj
                    have hcr := decAll_rel hH hl hd hir
                    have hlq := congrArg List.length e
                    have hcl := hcr.len
                    have hql := hq.len
                    simp at hlq hcl
                    have hq' : q1.length = vx.cells.size := by simpa using hq1
                    have hlen : cs'.size = p.length + q.length + s.length + spare.length := by
                      have := congrArg List.length h8
                      simpa [Nat.add_assoc] using this
                    have hraw := store_raw (P := P) h7 (j := i * u.size + j) hok hsz' hones (by omega)
                    have enew : cs'.toList.take (i * u.size + j) ++ vx.cells.toList ++ cs'.toList.drop (i * u.size + j + vx.cells.size) = (p ++ (p1 ++ vx.cells.toList ++ s1) ++ s) ++ spare := by
                      rw [h8, e]
                      have := take_drop_mid (p ++ p1) q1 (s1 ++ s ++ spare) vx.cells.toList (by simpa using hq'.symm)
                      rw [show (p ++ p1).length = i * u.size + j from by simp [hp1, hp2]] at this
                      simpa using this
                    rw [enew] at hraw
                    refine ⟨_, hraw, Step.setK (us := us) (x := .arr u l) (blk := .arr u (l.set i d)) (cs' := ((p ++ (p1 ++ vx.cells.toList ++ s1) ++ s) ++ spare).toArray) hH rfl rfl (by simpa using hc) hbx h1 (by simp [shape])
                      (writes_setRow h7 (by simp [hlen, hq']; omega)) ?_, rfl⟩
                    refine ⟨p ++ (p1 ++ vx.cells.toList ++ s1) ++ s, spare, by simp, ?_⟩
                    exact ListRel.set (n := u.size) (fun _ _ hx => hx.len) hcr (h9.mono fun _ _ hx => hx.su) hi hp1 hq.len
end
end Go.Fw
