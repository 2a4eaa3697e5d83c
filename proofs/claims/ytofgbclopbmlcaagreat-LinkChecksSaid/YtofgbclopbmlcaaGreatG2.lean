/- Part 2 of the proof: Fw6 Fw7 Fw8 Fw9 Fw10 Fw11 Fw12. No statement is handed in here; conditions: none. -/
import Derived.Test.YtofgbclopbmlcaaGreatG1
import Derived.Laws.CopyRow
import Derived.Laws.Entries
import Derived.Laws.MakeOwn
import Derived.Great.BuildSlice
import Derived.Laws.Slices
/- Items; types; loads, stores, addresses. -/
namespace Go.Fw
set_option linter.unusedVariables false
set_option linter.unusedSimpArgs false

theorem sizes_cons (c : Cell) (cs : List Cell) : sizes (c :: cs) = c.size + sizes cs := rfl

theorem itemAt_rel {E : Env} : ∀ {cs : List Cell} {vs : List Value} {j : Nat} {c : Cell}, IR E cs vs → itemAt cs j = some c → ∃ a r b, vs = a ++ r ++ b ∧ a.length = j ∧ CellR E c r
  | [], _, _, _, _, h => by simp [itemAt] at h
  | x :: xs, _, j, c, ⟨r, rest, e, h1, h2⟩, h => by
    subst e
    unfold itemAt at h
    cases h0 : Nat.beq j 0 with
    | true =>
      rw [h0] at h; injection h with h; subst h
      exact ⟨[], r, rest, rfl, (Nat.eq_of_beq_eq_true h0).symm, h1⟩
    | false =>
      rw [h0] at h
      simp only at h
      cases h3 : Nat.ble x.size j with
      | true =>
        rw [h3] at h
        have hle := Nat.le_of_ble_eq_true h3
        obtain ⟨a, r', b, rfl, ha, hc⟩ := itemAt_rel h2 h
        exact ⟨r ++ a, r', b, by simp, by simp [h1.len, ha]; omega, hc⟩
      | false => rw [h3] at h; cases h

theorem takeItems_rel {E : Env} : ∀ {cs : List Cell} {vs : List Value} {n : Nat} {r : List Cell}, IR E cs vs → takeItems cs n = some r → ∃ a b, vs = a ++ b ∧ a.length = n ∧ IR E r a
  | [], vs, n, r, h1, h => by
    unfold takeItems at h
    cases h0 : Nat.beq n 0 with
    | true => rw [h0] at h; injection h with h; subst h; exact ⟨[], vs, rfl, (Nat.eq_of_beq_eq_true h0).symm, rfl⟩
    | false => rw [h0] at h; cases h
  | x :: xs, _, n, r, ⟨v, rest, e, h1, h2⟩, h => by
    subst e
    unfold takeItems at h
    cases h0 : Nat.beq n 0 with
    | true => rw [h0] at h; injection h with h; subst h; exact ⟨[], _, rfl, (Nat.eq_of_beq_eq_true h0).symm, rfl⟩
    | false =>
      rw [h0] at h
      simp only at h
      cases h3 : Nat.ble x.size n with
      | true =>
        rw [h3] at h
        have hle := Nat.le_of_ble_eq_true h3
        cases h4 : takeItems xs (n - x.size) with
        | none => rw [h4] at h; cases h
        | some r' =>
          rw [h4] at h
          injection h with h
          subst h
          obtain ⟨a, b, rfl, ha, hr⟩ := takeItems_rel h2 h4
          exact ⟨v ++ a, b, by simp, by simp [h1.len, ha]; omega, v, a, rfl, h1, hr⟩
      | false => rw [h3] at h; cases h

theorem partItems_rel {E : Env} : ∀ {cs : List Cell} {vs : List Value} {j n : Nat} {r : List Cell}, IR E cs vs → partItems cs j n = some r → ∃ a m b, vs = a ++ m ++ b ∧ a.length = j ∧ m.length = n ∧ IR E r m
  | cs, vs, j, n, r, h1, h => by
    unfold partItems at h
    cases h0 : Nat.beq j 0 with
    | true =>
      rw [h0] at h
      obtain ⟨a, b, rfl, ha, hr⟩ := takeItems_rel h1 h
      exact ⟨[], a, b, rfl, (Nat.eq_of_beq_eq_true h0).symm, ha, hr⟩
    | false =>
      rw [h0] at h
      simp only at h
      cases cs with
      | nil => cases h
      | cons x xs =>
        simp only at h
        obtain ⟨v, rest, rfl, h2, h3⟩ := h1
        cases h4 : Nat.ble x.size j with
        | true =>
          rw [h4] at h
          have hle := Nat.le_of_ble_eq_true h4
          obtain ⟨a, m, b, rfl, ha, hm, hr⟩ := partItems_rel h3 h
          exact ⟨v ++ a, m, b, by simp, by simp [h2.len, ha]; omega, hm, hr⟩
        | false => rw [h4] at h; cases h

theorem setItem_rel {E : Env} {x : Cell} {xv : List Value} (hx : CellR E x xv) : ∀ {cs cs' : List Cell} {vs : List Value} {j : Nat}, IR E cs vs → setItem cs j x = some cs' →
    ∃ a r b, vs = a ++ r ++ b ∧ a.length = j ∧ r.length = x.size ∧ IR E cs' (a ++ xv ++ b) ∧ cs'.map Cell.size = cs.map Cell.size
  | [], _, _, _, _, h => by simp [setItem] at h
  | c :: cs, cs', _, j, ⟨v, rest, e, h1, h2⟩, h => by
    subst e
    unfold setItem at h
    cases h0 : Nat.beq j 0 with
    | true =>
      rw [h0] at h
      simp only at h
      cases h3 : Nat.beq c.size x.size with
      | true =>
        rw [h3] at h
        injection h with h
        subst h
        have := Nat.eq_of_beq_eq_true h3
        exact ⟨[], v, rest, rfl, (Nat.eq_of_beq_eq_true h0).symm, by rw [h1.len, this], ⟨xv, rest, by simp, hx, h2⟩, by simp [this]⟩
      | false => rw [h3] at h; cases h
    | false =>
      rw [h0] at h
      simp only at h
      cases h3 : Nat.ble c.size j with
      | true =>
        rw [h3] at h
        have hle := Nat.le_of_ble_eq_true h3
        cases h4 : setItem cs (j - c.size) x with
        | none => rw [h4] at h; cases h
        | some r' =>
          rw [h4] at h
          injection h with h
          subst h
          obtain ⟨a, r, b, rfl, ha, hr, hi, hs⟩ := setItem_rel hx h2 h4
          exact ⟨v ++ a, r, b, by simp, by simp [h1.len, ha]; omega, hr, ⟨v, a ++ xv ++ b, by simp, h1, hi⟩, by simp [hs]⟩
      | false => rw [h3] at h; cases h

theorem append3_inj {a a' r r' b b' : List Value} (h : a ++ r ++ b = a' ++ r' ++ b') (h1 : a.length = a'.length) (h2 : r.length = r'.length) : a = a' ∧ r = r' ∧ b = b' := by
  rw [List.append_assoc, List.append_assoc] at h
  obtain ⟨e1, e2⟩ := List.append_inj h h1
  obtain ⟨e3, e4⟩ := List.append_inj e2 h2
  exact ⟨e1, e3, e4⟩

theorem setItems_rel {E : Env} : ∀ {xs : List Cell} {xvs : List Value} {cs cs' : List Cell} {vs : List Value} {j : Nat}, IR E xs xvs → IR E cs vs → setItems cs j xs = some cs' → j ≤ vs.length →
    ∃ a r b, vs = a ++ r ++ b ∧ a.length = j ∧ r.length = xvs.length ∧ IR E cs' (a ++ xvs ++ b) ∧ cs'.map Cell.size = cs.map Cell.size
  | [], _, cs, cs', vs, j, hx, h1, h, hj => by
    simp only [IR] at hx
    subst hx
    simp only [setItems, Option.some.injEq] at h
    subst h
    exact ⟨vs.take j, [], vs.drop j, by simp, by simp [hj], rfl, by simpa using h1, rfl⟩
  | x :: xs, _, cs, cs', vs, j, ⟨xv, xvs, e, hx, hxs⟩, h1, h, hj => by
    subst e
    unfold setItems at h
    cases h2 : setItem cs j x with
    | none => rw [h2] at h; cases h
    | some cs1 =>
      rw [h2] at h
      simp only at h
      obtain ⟨a, r, b, rfl, ha, hr, hi, hs⟩ := setItem_rel hx h1 h2
      obtain ⟨a', r', b', e, ha', hr', hi', hs'⟩ := setItems_rel hxs hi h (by simp [ha, hx.len])
      have hxl := hx.len
      have hlen : (a ++ xv).length = a'.length := by simp [ha, ha', hxl]
      obtain ⟨e0, e1⟩ := List.append_inj (show (a ++ xv) ++ b = a' ++ (r' ++ b') by rw [e, List.append_assoc]) hlen
      subst e0 e1
      refine ⟨a, r ++ r', b', by simp, ha, by simp [hr, hxl, hr'], by simpa using hi', hs'.trans hs⟩

theorem foldl_sizes : ∀ (cs : List Cell) (n : Nat), cs.foldl (fun n c => n + c.size) n = n + sizes cs
  | [], n => rfl
  | c :: cs, n => by rw [List.foldl_cons, foldl_sizes cs, sizes_cons]; omega

-- types

def isAggD : TypeDesc → Bool
  | .struct _ | .array _ _ => true
  | _ => false

def DescOk (P : Program) : TD → TypeId → Prop
  | .int k, t => P.underlying t = some (.int k)
  | .bool, t => P.underlying t = some .bool
  | .str, t => P.underlying t = some .string
  | .slice e, t => P.underlying t = some (.slice e)
  | .struct fs, t => ∃ F, P.underlying t = some (.struct F) ∧ (∀ (i : Nat) u o, fs[i]? = some (u, o) → ∃ f : Field, F[i]? = some f ∧ f.type = u ∧ f.offset = o) ∧ (∀ f ∈ F, ∃ i, P.info? f.type = some i)
  | .array n e, t => P.underlying t = some (.array n e)
  | .ptr e, t => P.underlying t = some (.pointer e)
  | .iface, t => ∃ ms, P.underlying t = some (.interface ms)
  | .map k e, t => P.underlying t = some (.map k e)
  | .other, t => ∃ d, P.underlying t = some d ∧ isAggD d = false

def Ty.by_ : Ty → Nat
  | .int k => k.bits / 8
  | .ints k n => n * (k.bits / 8)
  | .bool => 1
  | .str => 16
  | .sl _ => 24
  | .pair a b => a.by_ + b.by_
def fitsF (P : Program) (g : Ty → TypeId → Bool) : Ty → List Field → Nat → Bool
  | _, [], _ => false
  | u, [f], off => g u f.type && Nat.beq f.offset off && Nat.beq (P.cellsOf f.type) u.size
  | u, f :: fs, off => match u with
    | .pair a b => g a f.type && Nat.beq f.offset off && Nat.beq (P.cellsOf f.type) a.size && fitsF P g b fs (off + a.size)
    | _ => false
def tyFits (P : Program) : Nat → Ty → TypeId → Bool
  | 0, _, _ => false
  | n + 1, u, t => match P.underlying t, u with
    | some .bool, .bool => true
    | some (.int k), .int k' => decide (k' = k)
    | some .string, .str => true
    | some (.slice e), .sl v => tyFits P n v e && Nat.beq (P.cellsOf e) v.size && Nat.ble 1 v.size && Nat.ble v.by_ (P.bytesOf e)
    | some (.struct F), u => fitsF P (tyFits P n) u F.toList 0 && Nat.beq (P.cellsOf t) u.size
    | some (.array m e), .ints k m' => match P.underlying e with
      | some (.int k') => decide (k' = k) && Nat.beq m' m && Nat.beq (P.cellsOf e) 1 && Nat.beq (P.cellsOf t) m
      | _ => false
    | _, _ => false

def isAggT (P : Program) (t : TypeId) : Bool := match P.underlying t with | some (.struct _) => true | some (.array _ _) => true | _ => false
/-- may values of a type be compared cell by cell -/
def cmpOk (P : Program) (u : Option Ty) (t : TypeId) : Bool := match u with
  | some u => isAggT P t && P.keyTypeAt 30 t && tyFits P 30 u t && !P.eqGuardType P.depth t
  | none => false

structure TyOk (P : Program) (t : TypeId) (ti : TI) : Prop where
  und : DescOk P ti.desc t
  inf : ∃ i z, P.info? t = some i ∧ i.size = ti.size ∧ i.bytes = ti.bytes ∧ i.zero = some z ∧ (∀ E : Env, IR E ti.zero z.cells.toList) ∧ z.cells.size = ti.size ∧
    (∀ u, ti.ety = some u → u.size = ti.size ∧ ∀ w S, CR w S u (dflt u) z.cells.toList)
  cmp : ti.cmp = true → cmpOk P ti.ety t = true
  nag : ti.isAgg = false → ∀ i z, P.info? t = some i → i.zero = some z → z.cells.toList = [z]

structure TabOk (P : Program) (T : Tab) : Prop where
  ty : ∀ t ti, T.ty t = some ti → TyOk P t ti
  meth : ∀ t name f, T.meth t name = some f → ∀ v w, (method (P.types.size + Made.depth) t v name).run P w = .ok (f, v) w

section
variable {P : Program} {T : Tab}

theorem TyOk.agg {t : TypeId} {ti : TI} (h : TyOk P t ti) (w : World) : (isAgg t).run P w = .ok ti.isAgg w := by
  have key : ∃ d, P.underlying t = some d ∧ isAggD d = ti.isAgg := by
    have := h.und
    unfold TI.isAgg
    cases hd : ti.desc <;> rw [hd] at this <;> simp only [DescOk] at this
    case struct => obtain ⟨F, h1, _⟩ := this; exact ⟨_, h1, rfl⟩
    case iface => obtain ⟨F, h1⟩ := this; exact ⟨_, h1, rfl⟩
    case other => exact this
    all_goals exact ⟨_, this, rfl⟩
  obtain ⟨d, h1, h2⟩ := key
  rw [← h2]
  unfold isAgg
  simp only [Sem.run_bind, run_underlying h1, Result.andThen_ok]
  cases d <;> rfl

theorem TyOk.sizeOf {t : TypeId} {ti : TI} (h : TyOk P t ti) (w : World) : (sizeOf t).run P w = .ok ti.size w := by
  obtain ⟨i, z, h1, h2, _⟩ := h.inf
  simp [Go.sizeOf, typeInfo, h1, h2]

theorem TyOk.zero {t : TypeId} {ti : TI} (h : TyOk P t ti) : ∃ z, (∀ w, (zeroValue t).run P w = .ok z w) ∧ (∀ E : Env, IR E ti.zero z.cells.toList) ∧ z.cells.size = ti.size ∧
    (∀ u, ti.ety = some u → u.size = ti.size ∧ ∀ w S, CR w S u (dflt u) z.cells.toList) := by
  obtain ⟨i, z, h1, h2, h3, h4, h5, h6, h7⟩ := h.inf
  exact ⟨z, fun w => by simp [zeroValue, typeInfo, h1, h4], h5, h6, h7⟩

theorem op_value {o : Oper} {a : Act} {w w' : World} {v : Value} {next : Act → World → Prop} {Q : Exit → Act → World → Prop} (h : (execOp a.eval o).run P w = .ok (.value v) w') (hn : next (a.put o.dst v) w') : o.wp P a w next Q := by
  unfold Oper.wp; rw [h]; exact hn
theorem op_skip {o : Oper} {a : Act} {w w' : World} {next : Act → World → Prop} {Q : Exit → Act → World → Prop} (h : (execOp a.eval o).run P w = .ok .skip w') (hn : next (a.put o.dst undef) w') : o.wp P a w next Q := by
  unfold Oper.wp; rw [h]; exact hn

/-- what a load gives -/
theorem load_run {E : Env} {look : Nat → Option Blk} (hT : TabOk P T) (hH : HeapOk E) (hl : ∀ b x, look b = some x → E.H b = some x) {t : TypeId} {a : AV} {va : Value} {r : Res} (ha : AVR E a va)
    (h : loadA T look t a = some r) (hp : ∀ p, r.pre = some p → p) : ∃ v, (Instr.loadAt t va).run P E.w = .ok v E.w ∧ AVR E r.val v ∧ r.add = [] ∧ r.set = [] := by
  -- from the cells of a place
  have agg : ∀ {ti : TI} {cs r' : List Cell} {us : List Value} {ad : Addr} {j : Nat}, TyOk P t ti → ti.isAgg = true → IR E cs us → partItems cs j ti.size = some r' → (∀ k u, us[k]? = some u → E.w.cell? (ad.add k) = some u) →
      ∃ v, (Instr.loadAt t (.pointer (some (ad.add j)))).run P E.w = .ok v E.w ∧ AVR E (.agg r') v := by
    intro ti cs r' us ad j hti hag hr hpart hc
    obtain ⟨x, m, y, rfl, hx, hm, hmr⟩ := partItems_rel hr hpart
    refine ⟨.agg m.toArray, ?_, m.toArray, rfl, by simpa using hmr⟩
    have hl : (loadCells (ad.add j) ti.size).run P E.w = .ok m.toArray E.w := by
      rw [← hm]
      refine run_loadCells_list _ _ m fun k u hu => ?_
      have := hc (j + k) u (by rw [List.append_assoc, List.getElem?_append_right (by omega), hx, List.getElem?_append_left (by simpa using (List.getElem?_eq_some_iff.1 hu).1)]; simpa using hu)
      rw [← this]
      congr 1
      unfold Addr.add
      by_cases h1 : j = 0 <;> by_cases h2 : k = 0 <;> simp [h1, h2, Nat.add_assoc]
    simp [Instr.loadAt, Instr.sureAddr, loadVar, hti.agg, hag, hti.sizeOf, hl]
  have one : ∀ {ti : TI} {cs : List Cell} {c : Cell} {us : List Value} {ad : Addr} {j : Nat}, TyOk P t ti → ti.isAgg = false → IR E cs us → itemAt cs j = some c → c.size = 1 → (∀ k u, us[k]? = some u → E.w.cell? (ad.add k) = some u) →
      ∃ v, (Instr.loadAt t (.pointer (some (ad.add j)))).run P E.w = .ok v E.w ∧ AVR E (.cell c) v := by
    intro ti cs c us ad j hti hag hr hitem hs hc
    obtain ⟨x, m, y, rfl, hx, hmr⟩ := itemAt_rel hr hitem
    have hml := hmr.len
    rw [hs] at hml
    match m, hml with
    | [v], _ =>
      refine ⟨v, ?_, hmr⟩
      have := hc j v (by rw [List.append_assoc, List.getElem?_append_right (by omega), hx]; simp)
      simp [Instr.loadAt, Instr.sureAddr, loadVar, hti.agg, hag, this]
  have run1 : ∀ {c : Cell}, (∀ k n l, c ≠ .run k n l) → c.size = 1 := by
    intro c hc
    cases c <;> first | rfl | exact absurd rfl (hc _ _ _)
  unfold loadA at h
  cases hti : T.ty t with
  | none => rw [hti] at h; cases h
  | some ti =>
    rw [hti] at h
    simp only at h
    have hok := hT.ty t ti hti
    match a, h, ha with
    | .one (.c (.ptr b j)), h, ha =>
      simp only at h
      cases hb : look b with
      | none => rw [hb] at h; cases h
      | some x =>
        rw [hb] at h
        cases x with
        | arr _ _ => cases h
        | mp _ _ _ _ => cases h
        | var cs =>
          simp only at h
          have hx := hl _ _ hb
          obtain ⟨_, ⟨g', cs', el', h6, h7, h8⟩, _⟩ := hH.blk _ _ hx
          obtain ⟨v, ⟨e, _⟩, hu, hh⟩ := ha
          injection e with e
          subst e
          obtain ⟨g, h1, rfl⟩ := hh _ hx
          rw [h1] at h6; injection h6 with h6; subst h6
          have hcell : ∀ k u, cs'.toList[k]? = some u → E.w.cell? ((⟨g, 0, none⟩ : Addr).add k) = some u := fun k u hu => by
            rw [add_at, Nat.zero_add, cell_at h7, ← Array.getElem?_toList]; exact hu
          have hpt : pt g j = .pointer (some ((⟨g, 0, none⟩ : Addr).add j)) := by rw [add_at, Nat.zero_add]; rfl
          cases hag : ti.isAgg with
          | true =>
            rw [hag] at h
            simp only at h
            cases hq : partItems cs j ti.size with
            | none => rw [hq] at h; cases h
            | some r' =>
              rw [hq] at h
              simp only [ok1, Option.some.injEq] at h
              subst h
              obtain ⟨v, hv, hvr⟩ := agg hok hag h8 hq hcell
              exact ⟨v, by rw [hpt]; exact hv, hvr, rfl, rfl⟩
          | false =>
            rw [hag] at h
            simp only at h
            split at h
            · cases h
            · rename_i c hq hnr
              simp only [ok1, Option.some.injEq] at h
              subst h
              obtain ⟨v, hv, hvr⟩ := one hok hag h8 hnr (run1 fun k n l e => hq k n l (by rw [← e])) hcell
              exact ⟨v, by rw [hpt]; exact hv, hvr, rfl, rfl⟩
            · cases h
    | .one (.c (.pidx b j i)), h, ha =>
      simp only at h
      cases hb : look b with
      | none => rw [hb] at h; cases h
      | some x =>
        rw [hb] at h
        cases x with
        | arr _ _ => cases h
        | mp _ _ _ _ => cases h
        | var cs =>
          simp only at h
          have hx := hl _ _ hb
          obtain ⟨_, ⟨g', cs', el', h6, h7, h8⟩, _⟩ := hH.blk _ _ hx
          obtain ⟨v, ⟨e, _⟩, hu, hh⟩ := ha
          injection e with e
          subst e
          obtain ⟨g, h1, rfl⟩ := hh _ hx
          rw [h1] at h6; injection h6 with h6; subst h6
          cases hag : ti.isAgg with
          | true => rw [hag] at h; cases h
          | false =>
            rw [hag] at h
            simp only at h
            split at h
            · rename_i k n l hq
              simp only [okP, Option.some.injEq] at h
              subst h
              have hi := hp _ rfl
              obtain ⟨x, m, y, e, hx', hlen, rfl⟩ := itemAt_rel h8 hq
              refine ⟨.int k (l.getD i 0), ?_, ⟨rfl, rfl⟩, rfl, rfl⟩
              have : E.w.cell? ⟨g, j + i, none⟩ = some (.int k (l.getD i 0)) := by
                rw [cell_at h7, ← Array.getElem?_toList, e, List.append_assoc, List.getElem?_append_right (by omega), hx', show j + i - j = i from by omega, List.getElem?_append_left (by simp; omega)]
                simp [List.getD, List.getElem?_eq_getElem (show i < l.length by omega)]
              simp [Instr.loadAt, Instr.sureAddr, pt, loadVar, hok.agg, hag, this]
            · cases h
    | .one (.c (.pel b i j)), h, ha =>
      simp only at h
      cases hb : look b with
      | none => rw [hb] at h; cases h
      | some x =>
        rw [hb] at h
        cases x with
        | var _ => cases h
        | mp _ _ _ _ => cases h
        | arr u l =>
          simp only at h
          have hx := hl _ _ hb
          obtain ⟨_, hbr, _⟩ := hH.blk _ _ hx
          obtain ⟨v, ⟨e, _⟩, hu, hh⟩ := ha
          injection e with e
          subst e
          have main : i < l.length → ∃ (us : List Value) (ad : Addr), IR E (cells u (l.getD i (dflt u))) us ∧ va = .pointer (some (Addr.add ad j)) ∧ ∀ k w, us[k]? = some w → E.w.cell? (ad.add k) = some w := by
            intro hi
            obtain ⟨g, h1, rfl⟩ := hh _ _ hx hi
            rcases hbr with ⟨h6, rfl⟩ | ⟨g', cs', el', us, spare, h6, h7, h8, h9⟩
            · simp at hi
            · rw [h1] at h6; injection h6 with h6; subst h6
              obtain ⟨p, q, s, rfl, hp1, hq⟩ := h9.get (fun _ _ hx => hx.len) hi
              have hg : l.getD i (dflt u) = l[i] := by simp [List.getD, List.getElem?_eq_getElem hi]
              rw [hg]
              refine ⟨q, ⟨g, i * u.size, none⟩, hq.items, by rw [add_at]; rfl, fun k w hw => ?_⟩
              rw [add_at, cell_at h7, ← Array.getElem?_toList, h8, List.append_assoc, List.append_assoc, List.getElem?_append_right (by omega), hp1, show i * u.size + k - i * u.size = k from by omega,
                List.getElem?_append_left (by exact (List.getElem?_eq_some_iff.1 hw).1)]
              exact hw
          cases hag : ti.isAgg with
          | true =>
            rw [hag] at h
            simp only at h
            cases hq : partItems (cells u (l.getD i (dflt u))) j ti.size with
            | none => rw [hq] at h; cases h
            | some r' =>
              rw [hq] at h
              simp only [okP, Option.some.injEq] at h
              subst h
              obtain ⟨us, ad, h1, rfl, h2⟩ := main (hp _ rfl)
              obtain ⟨v, hv, hvr⟩ := agg hok hag h1 hq h2
              exact ⟨v, hv, hvr, rfl, rfl⟩
          | false =>
            rw [hag] at h
            simp only at h
            split at h
            · cases h
            · rename_i c hq hnr
              simp only [okP, Option.some.injEq] at h
              subst h
              obtain ⟨us, ad, h1, rfl, h2⟩ := main (hp _ rfl)
              obtain ⟨v, hv, hvr⟩ := one hok hag h1 hnr (run1 fun k n l e => hq k n l (by rw [← e])) h2
              exact ⟨v, hv, hvr, rfl, rfl⟩
            · cases h
    | .one (.c (.rptr u l i j)), h, ha =>
      simp only at h
      obtain ⟨hi, ad, us0, e, hs, hlr, hcell⟩ := ha
      injection e with e
      subst e
      have main : ∃ us ad', IR E (cells u (l.getD i (dflt u))) us ∧ ad.add (i * u.size + j) = Addr.add ad' j ∧ ∀ k w, us[k]? = some w → E.w.cell? (ad'.add k) = some w := by
        obtain ⟨p, q, s, rfl, hp1, hq⟩ := hlr.get (fun _ _ hx => hx.len) hi
        have hg : l.getD i (dflt u) = l[i] := by simp [List.getD, List.getElem?_eq_getElem hi]
        rw [hg]
        refine ⟨q, ad.add (i * u.size), hq.items, ?_, fun k w hw => ?_⟩
        · unfold Addr.add
          by_cases h1 : i * u.size = 0 <;> by_cases h2 : j = 0 <;> simp [h1, h2, Nat.add_assoc]
        · have := hcell (i * u.size + k) w (by
            rw [List.append_assoc, List.getElem?_append_right (by omega), hp1, show i * u.size + k - i * u.size = k from by omega, List.getElem?_append_left (by exact (List.getElem?_eq_some_iff.1 hw).1)]
            exact hw)
          rw [← this]
          congr 1
          unfold Addr.add
          by_cases h1 : i * u.size = 0 <;> by_cases h2 : k = 0 <;> simp [h1, h2, Nat.add_assoc]
      obtain ⟨us, ad', h1, e, h2⟩ := main
      rw [e]
      cases hag : ti.isAgg with
      | true =>
        rw [hag] at h
        simp only at h
        cases hq : partItems (cells u (l.getD i (dflt u))) j ti.size with
        | none => rw [hq] at h; cases h
        | some r' =>
          rw [hq] at h
          simp only [ok1, Option.some.injEq] at h
          subst h
          obtain ⟨v, hv, hvr⟩ := agg hok hag h1 hq h2
          exact ⟨v, hv, hvr, rfl, rfl⟩
      | false =>
        rw [hag] at h
        simp only at h
        split at h
        · cases h
        · rename_i c hq hnr
          simp only [ok1, Option.some.injEq] at h
          subst h
          obtain ⟨v, hv, hvr⟩ := one hok hag h1 hnr (run1 fun k n l e => hq k n l (by rw [← e])) h2
          exact ⟨v, hv, hvr, rfl, rfl⟩
        · cases h

theorem writes_setRow {E : Env} {g : Nat} {cs cs' : Array Value} {el : TypeId} (h : E.w.heap[g]? = some (.cells cs el (0, 0))) (hs : cs'.size = cs.size) : Writes E g cs cs' el (E.w.setRow g cs') :=
  ⟨h, setRow_heap _ _ _ _ _ _ h, hs, fun i hi => setRow_other _ _ _ _ hi, by simp, rfl, rfl, rfl⟩

end
end Go.Fw

/- Stores; new blocks. -/
namespace Go.Fw
set_option linter.unusedVariables false
set_option linter.unusedSimpArgs false

section
variable {P : Program} {T : Tab}

theorem V1R.cells {E : Env} : {x : V1} → {v : Value} → V1R E x v → IR E x.items v.cells.toList
  | .c c, v, h => by
    have h1 := CellR.ones (c := c) h v (by simp)
    have : v.cells = #[v] := by cases v <;> first | rfl | (simp [Value.oneCell'] at h1)
    rw [this]
    exact ⟨[v], [], rfl, h, rfl⟩
  | .agg cs, _, ⟨vals, e, h⟩ => by subst e; exact h

theorem take_drop_mid (a r b x : List Value) (h : x.length = r.length) : (a ++ r ++ b).take a.length ++ x ++ (a ++ r ++ b).drop (a.length + x.length) = a ++ x ++ b := by
  simp [h, List.drop_append]

theorem mid_set (a m b : List Value) (i : Nat) (v : Value) (hi : i < m.length) : (a ++ m ++ b).take (a.length + i) ++ [v] ++ (a ++ m ++ b).drop (a.length + i + 1) = a ++ m.set i v ++ b := by
  rw [List.set_eq_take_append_cons_drop, if_pos hi]
  simp [List.take_append, List.drop_append, Nat.add_assoc, show a.length + (i + 1) - a.length = i + 1 from by omega, show i - m.length = 0 from by omega, show i + 1 - m.length = 0 from by omega,
    List.take_of_length_le (show a.length ≤ a.length + i by omega), List.drop_of_length_le (show a.length ≤ a.length + (i + 1) by omega)]

theorem setItems_le {E : Env} {xs cs cs' : List Cell} {xvs vs : List Value} {j : Nat} (hx : IR E xs xvs) (h1 : IR E cs vs) (h : setItems cs j xs = some cs') (hne : 0 < sizes xs) : j ≤ vs.length := by
  cases xs with
  | nil => simp [sizes] at hne
  | cons c r =>
    unfold setItems at h
    cases h9 : setItem cs j c with
    | none => rw [h9] at h; cases h
    | some _ =>
      obtain ⟨xv, _, _, hxv, _⟩ := hx
      obtain ⟨p, q, s, rfl, hp1, _⟩ := setItem_rel hxv h1 h9
      simp
      omega

theorem store_raw {E : Env} {g j : Nat} {cs : Array Value} {el : TypeId} (hg : E.w.heap[g]? = some (.cells cs el (0, 0))) {t : TypeId} {ti : TI} (hok : TyOk P t ti) {vx : Value} (hsz : vx.cells.size = ti.size) (h1 : ∀ u ∈ vx.cells.toList, u.oneCell' = true) (hfit : j + vx.cells.size ≤ cs.size) :
    (Instr.storeAt t (pt g j) vx).run P E.w = .ok () (E.w.setRow g (cs.toList.take j ++ vx.cells.toList ++ cs.toList.drop (j + vx.cells.size)).toArray) := by
  have hst := run_storeCells_at P g j el vx.cells.toList 0 cs E.w hg (by simpa using hfit) h1
  simp only [Nat.add_zero, Array.length_toList] at hst
  simp [Instr.storeAt, Instr.sureAddr, pt, storeVar, hok.sizeOf, hsz, hst]

theorem store_run {E : Env} {look : Nat → Option Blk} (hT : TabOk P T) (hH : HeapOk E) (hl : ∀ b x, look b = some x → E.H b = some x) {t : TypeId} {a x : AV} {va vx : Value} {r : Res} {nm : Nat} (ha : AVR E a va) (hx : AVR E x vx)
    (h : storeA T look t a x = some r) (hp : ∀ p, r.pre = some p → p) : ∃ E', (Instr.storeAt t va vx).run P E.w = .ok () E'.w ∧ Step E r nm E' ∧ r.val = .dead := by
  unfold storeA at h
  cases hti : T.ty t with
  | none => rw [hti] at h; cases h
  | some ti =>
    rw [hti] at h
    simp only at h
    have hok := hT.ty t ti hti
    cases x with
    | dead => cases h
    | tup _ => cases h
    | one v =>
      simp only at h
      have hvr := V1R.cells (E := E) (x := v) hx
      cases hsz : Nat.beq (v.items.foldl (fun n c => n + c.size) 0) ti.size && Nat.blt 0 ti.size with
      | false => rw [hsz] at h; cases h
      | true =>
        rw [hsz] at h
        simp only at h
        rw [Bool.and_eq_true] at hsz
        have hsz1 : sizes v.items = ti.size := by
          have := Nat.eq_of_beq_eq_true hsz.1
          rwa [foldl_sizes, Nat.zero_add] at this
        have hpos : 0 < sizes v.items := by
          have := Nat.le_of_ble_eq_true hsz.2
          omega
        have hsz' : vx.cells.size = ti.size := by
          rw [← hsz1, ← hvr.len]
          simp
        have hones := hvr.ones
        match a, h, ha with
        | .one (.c (.ptr b j)), h, ha =>
          simp only at h
          cases hb : look b with
          | none => rw [hb] at h; cases h
          | some y =>
            rw [hb] at h
            cases y with
            | arr _ _ => cases h
            | mp _ _ _ _ => cases h
            | var cs =>
              simp only at h
              have hbx := hl _ _ hb
              obtain ⟨_, ⟨g', cs', el', h6, h7, h8⟩, _⟩ := hH.blk _ _ hbx
              obtain ⟨v', ⟨e, _⟩, hu, hh⟩ := ha
              injection e with e
              subst e
              obtain ⟨g, h1, rfl⟩ := hh _ hbx
              rw [h1] at h6; injection h6 with h6; subst h6
              cases hs : setItems cs j v.items with
              | none => rw [hs] at h; cases h
              | some cs2 =>
                rw [hs] at h
                simp only [Option.some.injEq] at h
                subst h
                have hj := setItems_le hvr h8 hs hpos
                obtain ⟨p, q, s, e, hp1, hq, hir, hmap⟩ := setItems_rel hvr h8 hs hj
                have hlen : cs'.size = p.length + q.length + s.length := by
                  have := congrArg List.length e
                  simpa [Nat.add_assoc] using this
                have hq' : q.length = vx.cells.size := by simpa using hq
                have hraw := store_raw (P := P) h7 (j := j) hok hsz' hones (by omega)
                have enew : cs'.toList.take j ++ vx.cells.toList ++ cs'.toList.drop (j + vx.cells.size) = p ++ vx.cells.toList ++ s := by
                  rw [e, ← hp1]
                  exact take_drop_mid p q s vx.cells.toList (by simpa using hq'.symm)
                rw [enew] at hraw
                refine ⟨_, hraw, Step.setK (us := []) (x := .var cs) (blk := .var cs2) (cs' := (p ++ vx.cells.toList ++ s).toArray) hH rfl rfl (by simp) hbx h1 (by simp [shape, hmap]) (writes_setRow h7 (by simp; omega)) ?_, rfl⟩
                show IR (killE E []) cs2 _
                exact (hir.ext (killE_ext []))
        | .one (.c (.pidx b j i)), h, ha =>
          simp only at h
          cases hb : look b with
          | none => rw [hb] at h; cases h
          | some y =>
            rw [hb] at h
            cases y with
            | arr _ _ => cases h
            | mp _ _ _ _ => cases h
            | var cs =>
              simp only at h
              have hbx := hl _ _ hb
              obtain ⟨_, ⟨g', cs', el', h6, h7, h8⟩, _⟩ := hH.blk _ _ hbx
              obtain ⟨v', ⟨e, _⟩, hu, hh⟩ := ha
              injection e with e
              subst e
              obtain ⟨g, h1, rfl⟩ := hh _ hbx
              rw [h1] at h6; injection h6 with h6; subst h6
              split at h
              · rename_i k n l k' y hit hv
                cases hk : kindEq k' k with
                | false => rw [hk] at h; cases h
                | true =>
                  rw [hk] at h
                  simp only at h
                  have hkk : k' = k := of_decide_eq_true hk
                  subst hkk
                  cases hs : setItem cs j (.run k' n (l.set i y)) with
                  | none => rw [hs] at h; cases h
                  | some cs2 =>
                    rw [hs] at h
                    simp only [Option.some.injEq] at h
                    subst h
                    have hi : i < n := hp _ rfl
                    obtain ⟨p0, q0, s0, e0, hp0, hln, rfl⟩ := itemAt_rel h8 hit
                    have hrel : CellR E (.run k' n (l.set i y)) ((l.set i y).map (.int k')) := ⟨by simpa using hln, rfl⟩
                    obtain ⟨p, q, s, e, hp1, hq, hir, hmap⟩ := setItem_rel hrel h8 hs
                    rw [e0] at e
                    obtain ⟨rfl, rfl, rfl⟩ := append3_inj e (by rw [hp0, hp1]) (by simp [hq, Cell.size, hln])
                    obtain ⟨hvx, _⟩ := (show vx = .int k' y ∧ True by
                      have : CellR E (.imm (.int k' y)) [vx] := hx
                      obtain ⟨e, _⟩ := this
                      injection e with e
                      exact ⟨e, trivial⟩)
                    subst hvx
                    have hlen : cs'.size = p0.length + l.length + s0.length := by
                      have := congrArg List.length e0
                      simpa [Nat.add_assoc] using this
                    have hraw := store_raw (P := P) h7 (j := j + i) hok hsz' hones (by simp [Value.cells]; omega)
                    have enew : cs'.toList.take (j + i) ++ (Value.int k' y).cells.toList ++ cs'.toList.drop (j + i + (Value.int k' y).cells.size) = p0 ++ (l.set i y).map (.int k') ++ s0 := by
                      rw [e0, ← hp0, List.map_set]
                      exact mid_set p0 _ s0 i _ (by simp; omega)
                    rw [enew] at hraw
                    refine ⟨_, hraw, Step.setK (us := []) (x := .var cs) (blk := .var cs2) (cs' := (p0 ++ (l.set i y).map (Value.int k') ++ s0).toArray) hH rfl rfl (by simp) hbx h1 (by simp [shape, hmap]) (writes_setRow h7 (by simp; omega)) ?_, rfl⟩
                    show IR (killE E []) cs2 _
                    exact (hir.ext (killE_ext []))
              · cases h
        | .one (.c (.pel b i j)), h, ha =>
          simp only at h
          cases hb : look b with
          | none => rw [hb] at h; cases h
          | some y =>
            rw [hb] at h
            cases y with
            | var _ => cases h
            | mp _ _ _ _ => cases h
            | arr u l =>
              simp only at h
              have hbx := hl _ _ hb
              obtain ⟨_, hbr, _⟩ := hH.blk _ _ hbx
              obtain ⟨v', ⟨e, _⟩, hu, hh⟩ := ha
              injection e with e
              subst e
              cases hs : setItems (cells u (l.getD i (dflt u))) j v.items with
              | none => rw [hs] at h; cases h
              | some cs2 =>
                rw [hs] at h
                simp only at h
                cases hd : decAll look u cs2 with
                | none => rw [hd] at h; cases h
                | some du =>
                  obtain ⟨d, us⟩ := du
                  rw [hd] at h
                  simp only at h
                  cases hc : us.contains b with
                  | true => rw [hc] at h; cases h
                  | false =>
                    rw [hc] at h
                    simp only [Option.some.injEq] at h
                    subst h
                    have hi : i < l.length := hp _ rfl
                    obtain ⟨g, h1, rfl⟩ := hh _ _ hbx hi
                    rcases hbr with ⟨h6, rfl⟩ | ⟨g', cs', el', us0, spare, h6, h7, h8, h9⟩
                    · simp at hi
                    rw [h1] at h6; injection h6 with h6; subst h6
                    obtain ⟨p, q, s, rfl, hp1, hq⟩ := h9.get (fun _ _ hx => hx.len) hi
                    have hg : l.getD i (dflt u) = l[i] := by simp [List.getD, List.getElem?_eq_getElem hi]
                    rw [hg] at hs
                    have hj := setItems_le hvr hq.items hs hpos
                    obtain ⟨p1, q1, s1, e, hp2, hq1, hir, hmap⟩ := setItems_rel hvr hq.items hs hj
                    have hcr := decAll_rel hH hl hd hir
                    have hlq := congrArg List.length e
                    have hcl := hcr.len
                    have hql := hq.len
                    simp at hlq hcl
                    have hq' : q1.length = vx.cells.size := by simpa using hq1
                    have hlen : cs'.size = p.length + q.length + s.length + spare.length := by
                      have := congrArg List.length h8
                      simpa [Nat.add_assoc] using this
                    have hraw := store_raw (P := P) h7 (j := i * u.size + j) hok hsz' hones (by omega)
                    have enew : cs'.toList.take (i * u.size + j) ++ vx.cells.toList ++ cs'.toList.drop (i * u.size + j + vx.cells.size) = (p ++ (p1 ++ vx.cells.toList ++ s1) ++ s) ++ spare := by
                      rw [h8, e]
                      have := take_drop_mid (p ++ p1) q1 (s1 ++ s ++ spare) vx.cells.toList (by simpa using hq'.symm)
                      rw [show (p ++ p1).length = i * u.size + j from by simp [hp1, hp2]] at this
                      simpa using this
                    rw [enew] at hraw
                    refine ⟨_, hraw, Step.setK (us := us) (x := .arr u l) (blk := .arr u (l.set i d)) (cs' := ((p ++ (p1 ++ vx.cells.toList ++ s1) ++ s) ++ spare).toArray) hH rfl rfl (by simpa using hc) hbx h1 (by simp [shape])
                      (writes_setRow h7 (by simp [hlen, hq']; omega)) ?_, rfl⟩
                    refine ⟨p ++ (p1 ++ vx.cells.toList ++ s1) ++ s, spare, by simp, ?_⟩
                    exact ListRel.set (n := u.size) (fun _ _ hx => hx.len) hcr (h9.mono fun _ _ hx => hx.su) hi hp1 hq.len
end
end Go.Fw

/- New blocks; slices made; addresses. -/
namespace Go.Fw
set_option linter.unusedVariables false
set_option linter.unusedSimpArgs false

section
variable {P : Program} {T : Tab}

theorem newE_ptr (E : Env) (nm : Nat) (is : List Cell) (w' : World) : AVR (newE E nm (.var is) w') (.cell (.ptr nm 0)) (pt E.w.heap.size 0) :=
  ⟨_, ⟨rfl, rfl⟩, .inr rfl, fun cs _ => ⟨_, by simp [newE], rfl⟩⟩

theorem newE_svar (E : Env) (nm : Nat) (is : List Cell) (w' : World) (n : Nat) : AVR (newE E nm (.var is) w') (.cell (.svar nm 0 n)) (.slice (some ⟨E.w.heap.size, 0, none⟩) n n) :=
  ⟨_, ⟨rfl, rfl⟩, .inr rfl, fun cs _ => ⟨_, n, by simp [newE], rfl, Nat.le_refl _⟩⟩

theorem newE_own (E : Env) (nm : Nat) {t : Ty} {l : List (Den t)} {w' : World} {cs : Array Value} {el : TypeId} {cap : Nat} (hw : w'.heap = E.w.heap.push (.cells cs el)) (h1 : l.length ≤ cap) (h2 : cap * t.size ≤ cs.size) :
    AVR (newE E nm (.arr t l) w') (.cell (.own nm)) (.slice (some ⟨E.w.heap.size, 0, none⟩) l.length cap) := by
  refine ⟨_, ⟨rfl, rfl⟩, .inr rfl, fun u l' h => ?_⟩
  simp only [newE, if_true, Option.some.injEq, Blk.arr.injEq] at h
  obtain ⟨rfl, h⟩ := h
  have h := eq_of_heq h
  subst h
  exact .inr ⟨_, cs, el, cap, by simp [newE], push_new hw, rfl, h1, h2⟩

theorem alloc_run {E : Env} (hT : TabOk P T) (hH : HeapOk E) {t : TypeId} {ti : TI} (h : T.ty t = some ti) {nm : Nat} (hnm : ¬ E.U nm) :
    ∃ E', (Instr.alloc t true (.tuple #[])).run P E.w = .ok (pt E.w.heap.size 0) E'.w ∧ Step E { pre := none, val := .cell (.ptr nm 0), add := [.var ti.zero], set := [] } nm E' ∧ AVR E' (.cell (.ptr nm 0)) (pt E.w.heap.size 0) := by
  obtain ⟨z, hz, hir, _⟩ := (hT.ty t ti h).zero
  refine ⟨newE (killE E []) nm (.var ti.zero) (E.w.alloc (.cells z.cells t)), ?_, Step.newK (us := []) hH rfl rfl hnm rfl rfl rfl rfl (hir _), newE_ptr _ _ _ _⟩
  simp [Instr.alloc, hz, newVar, newRow]
  exact ⟨rfl, rfl⟩

theorem box_run {E : Env} (hH : HeapOk E) (t : TypeId) {x : V1} {v : Value} (hx : V1R E x v) {nm : Nat} (hnm : ¬ E.U nm) :
    ∃ E', (Instr.box t v).run P E.w = .ok (pt E.w.heap.size 0) E'.w ∧ Step E { pre := none, val := .cell (.ptr nm 0), add := [.var x.items], set := [] } nm E' ∧ AVR E' (.cell (.ptr nm 0)) (pt E.w.heap.size 0) := by
  refine ⟨newE (killE E []) nm (.var x.items) (E.w.alloc (.cells v.cells t)), ?_, Step.newK (us := []) hH rfl rfl hnm rfl rfl rfl rfl ((V1R.cells hx).ext (killE_ext [])), newE_ptr _ _ _ _⟩
  simp [Instr.box, newVar, newRow]
  exact ⟨rfl, rfl⟩

theorem ety_ok (hT : TabOk P T) {t : TypeId} {u : Ty} {by_ : Nat} (h : etyOf T t = some (u, by_)) : ∃ e i z, P.underlying t = some (.slice e) ∧ P.info? e = some i ∧ i.zero = some z ∧ i.size = u.size ∧ i.bytes = by_ ∧ z.cells.size = u.size ∧
    (∀ w S, CR w S u (dflt u) z.cells.toList) ∧ (∀ w, (sizeOf e).run P w = .ok u.size w) ∧ ∀ w, (zeroValue e).run P w = .ok z w := by
  unfold etyOf at h
  split at h
  · rename_i e _ _ _ _ _ ht
    have hu := (hT.ty t _ ht).und
    simp only [DescOk] at hu
    cases he : T.ty e with
    | none => rw [he] at h; cases h
    | some ti =>
      rw [he] at h
      simp only at h
      cases hy : ti.ety with
      | none => rw [hy] at h; cases h
      | some u' =>
        rw [hy] at h
        simp only [Option.some.injEq, Prod.mk.injEq] at h
        obtain ⟨rfl, rfl⟩ := h
        have hok := hT.ty e ti he
        obtain ⟨i, z, h1, h2, h3, h4, h5, h6, h7⟩ := hok.inf
        obtain ⟨h8, h9⟩ := h7 u' hy
        exact ⟨e, i, z, hu, h1, h4, h2.trans h8.symm, h3, h6.trans h8.symm, h9, fun w => by rw [h8]; exact hok.sizeOf w, fun w => by simp [zeroValue, typeInfo, h1, h4]⟩
  · cases h

theorem madeCells_flat (z : Array Value) (s : Nat) (hs : z.size = s) : ∀ n : Nat, (madeCells z (n * s)).toList = (List.replicate n z.toList).flatten := by
  intro n
  induction n with
  | zero => simp [madeCells]
  | succ n ih =>
    rw [List.replicate_succ']
    simp only [List.flatten_append, List.flatten_cons, List.flatten_nil, List.append_nil, ← ih]
    simp only [madeCells, Array.toList_map, Array.toList_range, Nat.add_mul, Nat.one_mul, List.range_add, List.map_append, List.map_map]
    congr 1
    apply List.ext_getElem
    · simp [hs]
    · intro i h1 h2
      simp only [List.length_map, List.length_range] at h1
      have e : (n * s + i) % s = i := by rw [Nat.mul_comm, Nat.mul_add_mod]; exact Nat.mod_eq_of_lt h1
      simp [hs, e, getElem!_pos z i (by omega)]

theorem listRel_replicate {w : World} {S : Nat → Prop} {u : Ty} {d : Den u} {zs : List Value} (h : CR w S u d zs) : ∀ n, ListRel (CR w S u) (List.replicate n d) (List.replicate n zs).flatten
  | 0 => rfl
  | n + 1 => ⟨zs, _, rfl, h, listRel_replicate h n⟩

theorem makeSlice_run {E : Env} (hT : TabOk P T) (hH : HeapOk E) {t : TypeId} {l c : AV} {vl vc : Value} {r : Res} {nm : Nat} (hnm : ¬ E.U nm) (h1 : AVR E l vl) (h2 : AVR E c vc)
    (h : makeSliceA T nm t l c = some r) (hp : ∀ p, r.pre = some p → p) : ∃ v E', (Instr.makeSlice t vl vc).run P E.w = .ok v E'.w ∧ Step E r nm E' ∧ AVR E' r.val v := by
  unfold makeSliceA at h
  split at h
  · rename_i u by_ n m he
    simp only [Option.some.injEq] at h
    subst h
    obtain ⟨rfl, h0, hb, h9⟩ := hp _ rfl
    obtain ⟨e, _⟩ := h1
    injection e with e
    subst e
    obtain ⟨e, _⟩ := h2
    injection e with e
    subst e
    obtain ⟨e, i, z, hu, hi, hz, hs, hby, hzs, hcr, _, _⟩ := ety_ok hT he
    subst hby
    have hrun := run_make (P := P) E.w t e i z hu hi hz .i64 .i64 n n h0 (Int.le_refl _) (by rw [Int.mul_comm]; exact hb) (by omega)
    have hcells : (madeCells z.cells (n.toNat * i.size)).toList = (List.replicate n.toNat z.cells.toList).flatten := by rw [hs]; exact madeCells_flat z.cells u.size hzs n.toNat
    refine ⟨_, newE (killE E []) nm (.arr u (List.replicate n.toNat (dflt u))) (E.w.alloc (.cells (madeCells z.cells (n.toNat * i.size)) e)), hrun, Step.newK (us := []) hH rfl rfl hnm rfl rfl rfl rfl ?_, ?_⟩
    · exact ⟨(madeCells z.cells (n.toNat * i.size)).toList, [], by simp, by rw [hcells]; exact listRel_replicate (hcr _ _) n.toNat⟩
    · have := newE_own (killE E []) nm (t := u) (l := List.replicate n.toNat (dflt u)) (w' := E.w.alloc (.cells (madeCells z.cells (n.toNat * i.size)) e)) (cap := n.toNat) (cs := madeCells z.cells (n.toNat * i.size)) (el := e) rfl (by simp) (by simp [size_madeCells, hs])
      simpa [killE] using this
  · cases h

/-- a part laid into a row -/
theorem fold_put : ∀ (vs : List Value) (k off : Nat) (cur : Array Value), off + k + vs.length ≤ cur.size →
    ((vs.zipIdx k).foldl (fun cs (x : Value × Nat) => cs.setIfInBounds (off + x.2) x.1) cur).toList = cur.toList.take (off + k) ++ vs ++ cur.toList.drop (off + k + vs.length)
  | [], k, off, cur, h => by simp
  | v :: vs, k, off, cur, h => by
    simp only [List.zipIdx_cons, List.foldl_cons]
    rw [fold_put vs (k + 1) off _ (by simp at h ⊢; omega)]
    simp only [Array.toList_setIfInBounds, List.length_cons]
    have hlt : off + k < cur.toList.length := by simp at h ⊢; omega
    rw [List.set_eq_take_append_cons_drop, if_pos hlt]
    have e1 : (cur.toList.take (off + k)).length = off + k := by simp; simp at hlt; omega
    rw [show off + (k + 1) = (off + k) + 1 from by omega, List.take_append, List.drop_append, e1]
    simp [show off + k + 1 - (off + k) = 1 from by omega, show off + k + 1 + vs.length - (off + k) = vs.length + 1 from by omega, List.take_take, List.drop_drop, List.drop_of_length_le (show (cur.toList.take (off + k)).length ≤ off + k + 1 + vs.length by omega)]
    congr 1
    omega

theorem fill_elems {size : Nat} : ∀ (parts : List (Nat × Value)) (i : Nat) (cur : Array Value) (a b : List Value), (∀ (k : Nat) p, parts[k]? = some p → p.1 = i + k ∧ p.2.cells.size = size) → cur.toList = a ++ b → a.length = i * size → parts.length * size ≤ b.length →
    ∃ arr, Instr.fill (fun i => some (i * size, size)) cur parts = some arr ∧ arr.toList = a ++ (parts.map fun p => p.2.cells.toList).flatten ++ b.drop (parts.length * size)
  | [], i, cur, a, b, _, hc, _, _ => ⟨cur, rfl, by simp [hc]⟩
  | p :: ps, i, cur, a, b, h, hc, ha, hb => by
    obtain ⟨j, v⟩ := p
    obtain ⟨h1, h2⟩ := h 0 (j, v) rfl
    simp only [Nat.add_zero] at h1 h2
    subst h1
    have hlen : cur.size = a.length + b.length := by
      have := congrArg List.length hc
      simpa using this
    simp only [List.length_cons, Nat.add_mul, Nat.one_mul] at hb
    have hput := fold_put v.cells.toList 0 (j * size) cur (by simp [h2]; omega)
    have hz : v.cells.zipIdx.foldl (fun cs (x : Value × Nat) => cs.setIfInBounds (j * size + x.2) x.1) cur = ((v.cells.toList.zipIdx 0).foldl (fun cs (x : Value × Nat) => cs.setIfInBounds (j * size + x.2) x.1) cur) := by
      rw [← Array.foldl_toList]
      simp
    have e2 : v.cells.toList.length = size := by simpa using h2
    have hnew : ((v.cells.toList.zipIdx 0).foldl (fun cs (x : Value × Nat) => cs.setIfInBounds (j * size + x.2) x.1) cur).toList = (a ++ v.cells.toList) ++ b.drop size := by
      rw [hput, hc, Nat.add_zero, ← ha, e2]
      simp [List.drop_append]
    obtain ⟨arr, h3, h4⟩ := fill_elems ps (j + 1) _ (a ++ v.cells.toList) (b.drop size) (fun k p hp => by obtain ⟨e1, e2⟩ := h (k + 1) p (by simpa using hp); exact ⟨by omega, e2⟩) hnew
      (by simp only [List.length_append, ha, e2, Nat.add_mul, Nat.one_mul]) (by simp; omega)
    refine ⟨arr, ?_, ?_⟩
    · simp only [Instr.fill, h2]
      rw [if_neg (by simp; omega), hz]
      exact h3
    · rw [h4]
      simp [List.drop_drop, Nat.add_mul, Nat.add_comm]

end
end Go.Fw

/- Slice literals, slicing, addresses, parts of values. -/
namespace Go.Fw
set_option linter.unusedVariables false
set_option linter.unusedSimpArgs false

section
variable {P : Program} {T : Tab}

/-- parts of a literal, abstract and real -/
def PsR (E : Env) : List (Nat × AV) → List (Nat × Value) → Prop
  | [], vs => vs = []
  | (i, x) :: ps, vs => ∃ v r, vs = (i, v) :: r ∧ AVR E x v ∧ PsR E ps r

theorem PsR.len {E : Env} : ∀ {ps : List (Nat × AV)} {vs : List (Nat × Value)}, PsR E ps vs → vs.length = ps.length
  | [], _, h => by simp only [PsR] at h; subst h; rfl
  | (i, x) :: ps, _, ⟨v, r, e, _, h⟩ => by subst e; simp [h.len]

theorem elemsA_rel {E : Env} {look : Nat → Option Blk} (hH : HeapOk E) (hl : ∀ b x, look b = some x → E.H b = some x) {u : Ty} : ∀ {ps : List (Nat × AV)} {vs : List (Nat × Value)} {i : Nat} {ds : List (Den u)} {us : List Nat}, PsR E ps vs → elemsA look u i ps = some (ds, us) →
    (∀ (k : Nat) p, vs[k]? = some p → p.1 = i + k ∧ p.2.cells.size = u.size) ∧ ListRel (CR E.w (SU E us) u) ds (vs.map fun p => p.2.cells.toList).flatten
  | [], _, i, ds, us, hr, h => by
    simp only [PsR] at hr
    subst hr
    simp only [elemsA, Option.some.injEq, Prod.mk.injEq] at h
    obtain ⟨rfl, rfl⟩ := h
    exact ⟨fun k p h => by simp at h, rfl⟩
  | (j, x) :: ps, _, i, ds, us, ⟨v, r, e, hx, hr⟩, h => by
    subst e
    cases x with
    | dead => simp [elemsA] at h
    | tup _ => simp [elemsA] at h
    | one x =>
      simp only [elemsA] at h
      cases hj : Nat.beq i j with
      | false => rw [hj] at h; cases h
      | true =>
        rw [hj] at h
        simp only at h
        obtain rfl := Nat.eq_of_beq_eq_true hj
        cases hd : decAll look u x.items with
        | none => rw [hd] at h; cases h
        | some du =>
          obtain ⟨d, us1⟩ := du
          rw [hd] at h
          simp only at h
          cases he : elemsA look u (i + 1) ps with
          | none => rw [he] at h; cases h
          | some y =>
            obtain ⟨ds', us2⟩ := y
            rw [he] at h
            simp only [Option.some.injEq, Prod.mk.injEq] at h
            obtain ⟨rfl, rfl⟩ := h
            obtain ⟨h1, h2⟩ := elemsA_rel hH hl hr he
            have hcr := decAll_rel hH hl hd (V1R.cells hx)
            refine ⟨fun k p hk => ?_, ⟨_, _, rfl, hcr.su_mono (by simp +contextual), h2.mono fun _ _ hx => hx.su_mono (by simp +contextual)⟩⟩
            cases k with
            | zero =>
              simp at hk
              subst hk
              exact ⟨rfl, by simpa using hcr.len⟩
            | succ k =>
              obtain ⟨e1, e2⟩ := h1 k p (by simpa using hk)
              exact ⟨by omega, e2⟩

/-- a slice literal, each element as many cells as its type has -/
theorem lit_run (hT : TabOk P T) {t : TypeId} {u : Ty} {by_ : Nat} (he : etyOf T t = some (u, by_)) {n : Nat} {vs : Array (Nat × Value)} (hn : n = vs.size) (hsm : n * u.size < 16777216) (hpos : 0 < u.size)
    (h1 : ∀ (k : Nat) p, vs.toList[k]? = some p → p.1 = 0 + k ∧ p.2.cells.size = u.size) (w : World) :
    ∃ (arr : Array Value) (e : TypeId), (Instr.buildSlice t n vs).run P w = .ok (.slice (some ⟨w.heap.size, 0, none⟩) n n) (w.alloc (.cells arr e)) ∧ arr.toList = (vs.toList.map fun p => p.2.cells.toList).flatten := by
  obtain ⟨e, i, z, hu, hi, hz, hs, hby, hzs, hcr, hso, hze⟩ := ety_ok hT he
  have hvl : vs.toList.length = n := by simp [hn]
  obtain ⟨arr, ha, hal⟩ := fill_elems (size := u.size) vs.toList 0 (madeCells z.cells (n * u.size)) [] (madeCells z.cells (n * u.size)).toList (fun k p hk => by simpa using h1 k p hk) rfl (by simp) (by simp [size_madeCells, hn])
  have hal' : arr.toList = (vs.toList.map fun p => p.2.cells.toList).flatten := by
    rw [hal]
    simp [hn, size_madeCells]
  refine ⟨arr, e, ?_, hal'⟩
  by_cases h0 : n = 0
  · subst h0
    have hv0 : vs = #[] := by
      have : vs.toList = [] := List.eq_nil_of_length_eq_zero (by omega)
      simpa using this
    subst hv0
    have : arr = #[] := by simpa using hal'
    subst this
    simp [Instr.buildSlice, run_underlying hu, hso, Instr.fill, newRow, Array.range_zero']
  · have hne : ¬ n * u.size = 0 := by
      intro e0
      rcases Nat.mul_eq_zero.1 e0 with e0 | e0 <;> omega
    exact run_buildSlice w t e n vs arr i z hu hi hz (by rw [hs]; omega) (by rw [hs]; exact hne) (by rw [hs]; exact ha)

theorem subsA_rel {E : Env} : ∀ {ps : List (Nat × AV)} {vs : List (Nat × Value)} {i : Nat} {cs : List Cell}, PsR E ps vs → subsA i ps = some cs →
    (∀ (k : Nat) p, vs[k]? = some p → p.1 = i + k ∧ p.2.cells.size = 1) ∧ IR E cs (vs.map fun p => p.2.cells.toList).flatten
  | [], _, i, cs, hr, h => by
    simp only [PsR] at hr
    subst hr
    simp only [subsA, Option.some.injEq] at h
    subst h
    exact ⟨fun k p h => by simp at h, rfl⟩
  | (j, x) :: ps, _, i, cs, ⟨v, r, e, hx, hr⟩, h => by
    subst e
    unfold subsA at h
    split at h
    · rename_i h'; cases h'
    · rename_i b o l r' h'
      injection h' with h' h''
      injection h' with e1 e2
      subst e1; subst e2; subst h''
      split at h
      · rename_i hj
        obtain rfl := Nat.eq_of_beq_eq_true hj
        split at h
        · rename_i cs' hcs
          injection h with h
          subst h
          obtain ⟨h1, h2⟩ := subsA_rel hr hcs
          obtain ⟨v', ⟨ev, hv1⟩, hrest⟩ := hx
          injection ev with ev
          subst ev
          have hc1 : v.cells = #[v] := by
            cases v <;> simp_all [Value.cells, Value.oneCell']
          refine ⟨fun k p hk => ?_, [v], _, by simp [hc1], ⟨v, ⟨rfl, hv1⟩, hrest⟩, h2⟩
          cases k with
          | zero =>
            simp at hk
            subst hk
            exact ⟨rfl, by simp [hc1]⟩
          | succ k =>
            obtain ⟨e1, e2⟩ := h1 k p (by simpa using hk)
            exact ⟨by omega, e2⟩
        · cases h
      · cases h
    · cases h

/-- a slice literal of elements of one cell -/
theorem lit_run1 {t e : TypeId} {i : TypeInfo} {z : Value} (hu : P.underlying t = some (.slice e)) (hi : P.info? e = some i) (hz : i.zero = some z) (hs : i.size = 1) (hzs : z.cells.size = 1) {n : Nat} {vs : Array (Nat × Value)} (hn : n = vs.size) (hsm : n < 16777216) (hpos : 0 < n)
    (h1 : ∀ (k : Nat) p, vs.toList[k]? = some p → p.1 = 0 + k ∧ p.2.cells.size = 1) (w : World) :
    ∃ arr : Array Value, (Instr.buildSlice t n vs).run P w = .ok (.slice (some ⟨w.heap.size, 0, none⟩) n n) (w.alloc (.cells arr e)) ∧ arr.toList = (vs.toList.map fun p => p.2.cells.toList).flatten := by
  have hvl : vs.toList.length = n := by simp [hn]
  obtain ⟨arr, ha, hal⟩ := fill_elems (size := 1) vs.toList 0 (madeCells z.cells (n * 1)) [] (madeCells z.cells (n * 1)).toList (fun k p hk => by simpa using h1 k p hk) rfl (by simp) (by simp [size_madeCells, hn])
  have hal' : arr.toList = (vs.toList.map fun p => p.2.cells.toList).flatten := by
    rw [hal]
    simp [hn, size_madeCells]
  exact ⟨arr, run_buildSlice w t e n vs arr i z hu hi hz (by rw [hs]; omega) (by rw [hs]; omega) (by rw [hs]; exact ha), hal'⟩

theorem ptrsA_rel {E : Env} : ∀ {ps : List (Nat × AV)} {vs : List (Nat × Value)} {i : Nat} {cs : List Cell}, PsR E ps vs → ptrsA i ps = some cs →
    (∀ (k : Nat) p, vs[k]? = some p → p.1 = i + k ∧ p.2.cells.size = 1) ∧ IR E cs (vs.map fun p => p.2.cells.toList).flatten
  | [], _, i, cs, hr, h => by
    simp only [PsR] at hr
    subst hr
    simp only [ptrsA, Option.some.injEq] at h
    subst h
    exact ⟨fun k p h => by simp at h, rfl⟩
  | (j, x) :: ps, _, i, cs, ⟨v, r, e, hx, hr⟩, h => by
    subst e
    unfold ptrsA at h
    split at h
    · rename_i h'; cases h'
    · rename_i b o r' h'
      injection h' with h' h''
      injection h' with e1 e2
      subst e1; subst e2; subst h''
      split at h
      · rename_i hj
        obtain rfl := Nat.eq_of_beq_eq_true hj
        split at h
        · rename_i cs' hcs
          injection h with h
          subst h
          obtain ⟨h1, h2⟩ := ptrsA_rel hr hcs
          obtain ⟨v', ⟨ev, hv1⟩, hrest⟩ := hx
          injection ev with ev
          subst ev
          have hc1 : v.cells = #[v] := by
            cases v <;> simp_all [Value.cells, Value.oneCell']
          refine ⟨fun k p hk => ?_, [v], _, by simp [hc1], ⟨v, ⟨rfl, hv1⟩, hrest⟩, h2⟩
          cases k with
          | zero =>
            simp at hk
            subst hk
            exact ⟨rfl, by simp [hc1]⟩
          | succ k =>
            obtain ⟨e1, e2⟩ := h1 k p (by simpa using hk)
            exact ⟨by omega, e2⟩
        · cases h
      · cases h
    · cases h


theorem ptrSlice_run {E : Env} (hT : TabOk P T) (hH : HeapOk E) {t : TypeId} {n : Nat} {ps : List (Nat × AV)} {vs : Array (Nat × Value)} {r : Res} {nm : Nat} (hnm : ¬ E.U nm) (hr : PsR E ps vs.toList)
    (h : ptrSliceA T nm t n ps = some r) : ∃ v E', (Instr.buildSlice t n vs).run P E.w = .ok v E'.w ∧ Step E r nm E' ∧ AVR E' r.val v := by
  unfold ptrSliceA at h
  split at h
  · rename_i e _ _ _ _ _ ht
    have hu := (hT.ty t _ ht).und
    simp only [DescOk] at hu
    split at h
    · rename_i q sz by_ zr et cm he
      split at h
      · rename_i hc
        simp only [Bool.and_eq_true] at hc
        obtain ⟨⟨⟨hc0, hc1⟩, hc2⟩, hc3⟩ := hc
        have hs1 : sz = 1 := Nat.eq_of_beq_eq_true hc0
        have hn := Nat.eq_of_beq_eq_true hc1
        have hsm : n < 16777216 := Nat.le_of_ble_eq_true hc2
        have hpos : 0 < n := Nat.le_of_ble_eq_true hc3
        split at h
        · rename_i cs hcs
          simp only [Option.some.injEq] at h
          subst h
          obtain ⟨i, z, h1, h2, h3, h4, h5, h6, h7⟩ := (hT.ty e _ he).inf
          obtain ⟨k1, k2⟩ := ptrsA_rel hr hcs
          have hvl := hr.len
          obtain ⟨arr, hrun, hal⟩ := lit_run1 (P := P) hu h1 h4 (h2.trans hs1) (h6.trans hs1) (n := n) (vs := vs) (by simp at hvl; omega) hsm hpos k1 E.w
          refine ⟨_, newE (killE E []) nm (.var cs) (E.w.alloc (.cells arr e)), hrun, Step.newK (us := []) hH rfl rfl hnm rfl rfl rfl rfl ?_, newE_svar _ _ _ _ _⟩
          show IR (killE E []) cs arr.toList
          rw [hal]
          exact k2.ext (killE_ext [])
        · cases h
      · cases h
    · cases h
  · cases h

theorem buildSlice_run {E : Env} {look : Nat → Option Blk} (hT : TabOk P T) (hH : HeapOk E) (hl : ∀ b x, look b = some x → E.H b = some x) {t : TypeId} {n : Nat} {ps : List (Nat × AV)} {vs : Array (Nat × Value)} {r : Res} {nm : Nat} (hnm : ¬ E.U nm) (hr : PsR E ps vs.toList)
    (h : buildSliceA T look nm t n ps = some r) : ∃ v E', (Instr.buildSlice t n vs).run P E.w = .ok v E'.w ∧ Step E r nm E' ∧ AVR E' r.val v := by
  unfold buildSliceA at h
  cases he : etyOf T t with
  | none => rw [he] at h; exact ptrSlice_run hT hH hnm hr h
  | some ub =>
    obtain ⟨u, by_⟩ := ub
    rw [he] at h
    simp only at h
    split at h
    · rename_i hc
      simp only [Bool.and_eq_true] at hc
      obtain ⟨⟨hc1, hc2⟩, hc3⟩ := hc
      have hn := Nat.eq_of_beq_eq_true hc1
      have hsm : n * u.size < 16777216 := Nat.le_of_ble_eq_true hc2
      have hpos : 0 < u.size := Nat.le_of_ble_eq_true hc3
      cases hsu : subsOf u ps with
      | some cs =>
        rw [hsu] at h
        simp only [Option.some.injEq] at h
        subst h
        have hu1 : u.size = 1 := by cases u <;> first | rfl | (simp [subsOf] at hsu; done)
        have hsa : subsA 0 ps = some cs := by
          unfold subsOf at hsu
          split at hsu
          · exact hsu
          · cases hsu
        obtain ⟨h1, h2⟩ := subsA_rel hr hsa
        have hvl := hr.len
        obtain ⟨arr, e, hrun, hal⟩ := lit_run (P := P) hT he (n := n) (vs := vs) (by simp at hvl; omega) hsm hpos (by rw [hu1]; exact h1) E.w
        refine ⟨_, newE (killE E []) nm (.var cs) (E.w.alloc (.cells arr e)), hrun, Step.newK (us := []) hH rfl rfl hnm rfl rfl rfl rfl ?_, newE_svar _ _ _ _ _⟩
        show IR (killE E []) cs arr.toList
        rw [hal]
        exact h2.ext (killE_ext [])
      | none =>
      rw [hsu] at h
      simp only at h
      cases hel : elemsA look u 0 ps with
      | none => rw [hel] at h; cases h
      | some y =>
        obtain ⟨ds, us⟩ := y
        rw [hel] at h
        simp only [Option.some.injEq] at h
        subst h
        obtain ⟨h1, h2⟩ := elemsA_rel hH hl hr hel
        obtain ⟨e, i, z, hu, hi, hz, hs, hby, hzs, hcr, hso, hze⟩ := ety_ok hT he
        have hvl := hr.len
        obtain ⟨arr, ha, hal⟩ := fill_elems (size := u.size) vs.toList 0 (madeCells z.cells (n * u.size)) [] (madeCells z.cells (n * u.size)).toList (fun k p hk => by simpa using h1 k p hk) rfl (by simp) (by simp [size_madeCells, hn]; simp at hvl; rw [hvl]; exact Nat.le_refl _)
        have hal' : arr.toList = (vs.toList.map fun p => p.2.cells.toList).flatten := by
          rw [hal]
          simp [hvl, ← hn, size_madeCells]
        have hdl : ds.length = n := by
          have := h2.len (n := u.size) (fun _ _ hx => hx.len)
          have h3 := congrArg List.length hal
          have h4 : arr.toList.length = n * u.size := by
            rw [hal]
            simp [size_madeCells]
            have h5 : ((vs.toList.map fun p => p.2.cells.toList).flatten).length = n * u.size := by
              have : ∀ (l : List (Nat × Value)), (∀ p ∈ l, p.2.cells.size = u.size) → ((l.map fun p => p.2.cells.toList).flatten).length = l.length * u.size := by
                intro l
                induction l with
                | nil => intro _; simp
                | cons p l ih => intro hp; simp [List.flatten_cons, hp p (by simp), Nat.add_mul, Nat.add_comm] at ih ⊢; rw [ih fun a b hb => hp (a, b) (by simp [hb])]
              rw [this vs.toList (fun p hp => by obtain ⟨k, hk⟩ := List.mem_iff_getElem?.1 hp; exact (h1 k p hk).2), hvl, hn]
            simp at hvl h5
            rw [hvl, ← hn]
            omega
          rw [hal'] at h4
          rw [h4] at this
          exact (Nat.eq_of_mul_eq_mul_right hpos this).symm
        have hrun : (Instr.buildSlice t n vs).run P E.w = .ok (.slice (some ⟨E.w.heap.size, 0, none⟩) n n) (E.w.alloc (.cells arr e)) := by
          by_cases h0 : n = 0
          · subst h0
            have hv0 : vs = #[] := by
              have : vs.toList = [] := List.eq_nil_of_length_eq_zero (by omega)
              simpa using this
            subst hv0
            have : arr = #[] := by simpa using hal'
            subst this
            simp [Instr.buildSlice, run_underlying hu, hso, Instr.fill, newRow, Array.range_zero']
          · have hne : ¬ n * u.size = 0 := by
              intro e0
              rcases Nat.mul_eq_zero.1 e0 with e0 | e0 <;> omega
            exact run_buildSlice E.w t e n vs arr i z hu hi hz (by rw [hs]; omega) (by rw [hs]; exact hne) (by rw [hs]; exact ha)
        refine ⟨_, newE (killE E us) nm (.arr u ds) (E.w.alloc (.cells arr e)), hrun, Step.newK (us := us) hH rfl rfl hnm rfl rfl rfl rfl ?_, ?_⟩
        · exact ⟨arr.toList, [], by simp, by rw [hal']; exact h2⟩
        · have := newE_own (killE E us) nm (t := u) (l := ds) (w' := E.w.alloc (.cells arr e)) (cap := n) (cs := arr) (el := e) rfl (by omega) (by
            have := h2.len (n := u.size) (fun _ _ hx => hx.len)
            rw [← hal', hdl] at this
            simp at this
            omega)
          simpa [killE, hdl] using this
    · cases h

theorem sb (k : IntKind) (i : Int) (y : Nat) (code : BoundsCode) (h0 : 0 ≤ i) (h1 : i ≤ y) (w : World) : (Instr.sliceBound (.int k i) y code).run P w = .ok i.toNat w := by
  simp [Instr.sliceBound, asIntOf, h0, h1]

def OptR (E : Env) : Option AV → Option Value → Prop
  | none, none => True
  | some x, some v => AVR E x v
  | _, _ => False

theorem boundsA_run {E : Env} {len : Nat} {lo hi : Option AV} {vlo vhi : Option Value} {p : Prop} {a b : Nat} (h1 : OptR E lo vlo) (h2 : OptR E hi vhi) (h : boundsA len lo hi = some (p, a, b)) (hp : p) :
    a ≤ b ∧ b ≤ len ∧ ∀ (isSl : Bool) (cap : Nat) (w : World), len ≤ cap → (Instr.sliceBounds isSl len cap vlo vhi none).run P w = .ok (a, b, cap) w := by
  unfold boundsA at h
  split at h
  · simp only [Option.some.injEq, Prod.mk.injEq] at h
    obtain ⟨rfl, rfl, rfl⟩ := h
    cases vlo <;> cases vhi <;> simp only [OptR] at h1 h2
    exact ⟨Nat.zero_le _, Nat.le_refl _, fun isSl cap w hc => by simp [Instr.sliceBounds]⟩
  · simp only [Option.some.injEq, Prod.mk.injEq] at h
    obtain ⟨rfl, rfl, rfl⟩ := h
    cases vlo with
    | none => simp only [OptR] at h1
    | some v =>
      cases vhi with
      | some _ => simp only [OptR] at h2
      | none =>
        obtain ⟨e, _⟩ := h1
        injection e with e
        subst e
        exact ⟨by omega, Nat.le_refl _, fun isSl cap w hc => by simp [Instr.sliceBounds, sb _ _ _ _ hp.1 hp.2]⟩
  · simp only [Option.some.injEq, Prod.mk.injEq] at h
    obtain ⟨rfl, rfl, rfl⟩ := h
    cases vhi with
    | none => simp only [OptR] at h2
    | some v =>
      cases vlo with
      | some _ => simp only [OptR] at h1
      | none =>
        obtain ⟨e, _⟩ := h2
        injection e with e
        subst e
        exact ⟨Nat.zero_le _, by omega, fun isSl cap w hc => by simp [Instr.sliceBounds, sb _ _ _ _ hp.1 (show _ ≤ (cap : Int) by omega)]⟩
  · simp only [Option.some.injEq, Prod.mk.injEq] at h
    obtain ⟨rfl, rfl, rfl⟩ := h
    cases vhi with
    | none => simp only [OptR] at h2
    | some v =>
      cases vlo with
      | none => simp only [OptR] at h1
      | some v' =>
        obtain ⟨e, _⟩ := h2
        injection e with e
        subst e
        obtain ⟨e, _⟩ := h1
        injection e with e
        subst e
        obtain ⟨p1, p2, p3⟩ := hp
        refine ⟨by omega, by omega, fun isSl cap w hc => ?_⟩
        have h0 := Int.le_trans p1 p2
        simp [Instr.sliceBounds, sb _ _ _ _ h0 (show _ ≤ (cap : Int) by omega), sb _ _ _ _ p1 (Int.le_trans p2 (Int.self_le_toNat _))]
  · cases h

end
end Go.Fw

/- Slicing; addresses of fields and elements; parts of values. -/
namespace Go.Fw
set_option linter.unusedVariables false
set_option linter.unusedSimpArgs false

section
variable {P : Program} {T : Tab}

theorem addadd (ad : Addr) (i j : Nat) : (ad.add i).add j = ad.add (i + j) := by
  unfold Addr.add
  by_cases h1 : i = 0 <;> by_cases h2 : j = 0 <;> simp [h1, h2, Nat.add_assoc]

theorem cut_ro {α : Type} {w : World} {S : Nat → Prop} {R : α → List Value → Prop} {n : Nat} (hn : ∀ x vs, R x vs → vs.length = n) {l : List α} {ad : Option Addr} {cap a b : Nat} (h : SlR w S R l (.slice ad l.length cap)) (hab : a ≤ b) (hb : b ≤ l.length) :
    SlR w S R ((l.take b).drop a) (.slice (if cap = a then ad else ad.map (·.add (a * n))) (b - a) (cap - a)) := by
  obtain ⟨ad', cap', e, hc, hh⟩ := h
  injection e with e1 e2 e3
  subst e1 e3
  have hlen : ((l.take b).drop a).length = b - a := by simp; omega
  refine ⟨_, _, by rw [hlen], by rw [hlen]; omega, fun hne => ?_⟩
  have hpos : a < b := by
    rcases Nat.lt_or_ge a b with h | h
    · exact h
    · exact absurd (List.eq_nil_of_length_eq_zero (by omega)) hne
  obtain ⟨x, us, rfl, hs, hlr, hcell⟩ := hh (by intro e; subst e; simp at hb; omega)
  rw [if_neg (by omega)]
  have h1 := (hlr.take_drop hn b).1
  have h2 := (h1.take_drop hn a).2
  refine ⟨x.add (a * n), _, rfl, by rw [show (x.add (a * n)).block = x.block from by unfold Addr.add; split <;> rfl]; exact hs, h2, fun k u hu => ?_⟩
  rw [addadd]
  refine hcell _ _ ?_
  rw [List.getElem?_drop, List.getElem?_take] at hu
  split at hu
  · exact hu
  · cases hu

theorem slice_run {E : Env} {look : Nat → Option Blk} (hT : TabOk P T) (hH : HeapOk E) (hl : ∀ b x, look b = some x → E.H b = some x) {t : TypeId} {x : AV} {lo hi mx : Option AV} {vx : Value} {vlo vhi vmx : Option Value} {r : Res}
    (hx : AVR E x vx) (h1 : OptR E lo vlo) (h2 : OptR E hi vhi) (h3 : OptR E mx vmx) (h : sliceA T look t x lo hi mx = some r) (hp : ∀ p, r.pre = some p → p) :
    ∃ v, (Instr.sliceAt t vx vlo vhi vmx).run P E.w = .ok v E.w ∧ AVR E r.val v ∧ r.add = [] ∧ r.set = [] := by
  unfold sliceA at h
  cases mx with
  | some _ => cases h
  | none =>
  cases vmx with
  | some _ => simp only [OptR] at h3
  | none =>
  simp only at h
  split at h
  · -- strings
    rename_i ht
    have hu := (hT.ty t _ ht).und
    simp only [DescOk] at hu
    obtain ⟨e, _⟩ := hx
    injection e with e
    subst e
    split at h
    · rename_i p a b hb
      simp only [okP, Option.some.injEq] at h
      subst h
      obtain ⟨_, _, hrun⟩ := boundsA_run (P := P) h1 h2 hb (hp _ rfl)
      exact ⟨_, by simp [Instr.sliceAt, run_underlying hu, Instr.slice, hrun false _ E.w (Nat.le_refl _)], ⟨rfl, rfl⟩, rfl, rfl⟩
    · cases h
  · -- slices that are read
    rename_i e _ _ _ _ _ u l ht
    have hu := (hT.ty t _ ht).und
    simp only [DescOk] at hu
    split at h
    · rename_i p a b ti hb hti
      split at h
      · rename_i hsz
        simp only [okP, Option.some.injEq] at h
        subst h
        obtain ⟨hab, hbl, hrun⟩ := boundsA_run (P := P) h1 h2 hb (hp _ rfl)
        have hs := Nat.eq_of_beq_eq_true hsz
        obtain ⟨v, e, hsl⟩ := hx
        injection e with e
        subst e
        obtain ⟨ad, cap, rfl, hc, hh⟩ := hsl
        refine ⟨_, ?_, ⟨_, rfl, cut_ro (n := u.size) (fun _ _ hx => hx.len) ⟨ad, cap, rfl, hc, hh⟩ hab hbl⟩, rfl, rfl⟩
        simp [Instr.sliceAt, run_underlying hu, Instr.slice, hrun true _ E.w hc, (hT.ty e ti hti).sizeOf, hs]
      · cases h
    · cases h
  · -- a block as a whole
    rename_i e _ _ _ _ _ b ht
    have hu := (hT.ty t _ ht).und
    simp only [DescOk] at hu
    split at h
    · rename_i u l ti hb hti
      have hbx := hl _ _ hb
      split at h
      · rename_i hsz
        have hs := Nat.eq_of_beq_eq_true hsz
        obtain ⟨v, ⟨e, hv1⟩, hU, hh⟩ := hx
        injection e with e
        subst e
        split at h
        · simp only [ok1, Option.some.injEq] at h
          subst h
          cases vlo <;> cases vhi <;> simp only [OptR] at h1 h2
          rcases hh _ _ hbx with ⟨hr, rfl⟩ | ⟨g, cs, el, cap, hr, hw, rfl, hc, hsz'⟩
          · refine ⟨.slice none 0 0, ?_, ⟨_, ⟨rfl, rfl⟩, hU, hh⟩, rfl, rfl⟩
            simp [Instr.sliceAt, run_underlying hu, Instr.slice, Instr.sliceBounds, (hT.ty _ ti hti).sizeOf]
          · refine ⟨.slice (some ⟨g, 0, none⟩) l.length cap, ?_, ⟨_, ⟨rfl, rfl⟩, hU, hh⟩, rfl, rfl⟩
            simp [Instr.sliceAt, run_underlying hu, Instr.slice, Instr.sliceBounds, (hT.ty _ ti hti).sizeOf, Addr.add]
        · split at h
          · rename_i p a c hbd
            simp only [okP, Option.some.injEq] at h
            subst h
            obtain ⟨hab, hbl, hrun⟩ := boundsA_run (P := P) h1 h2 hbd (hp _ rfl)
            rcases hh _ _ hbx with ⟨hr, rfl⟩ | ⟨g, cs, el, cap, hr, hw, rfl, hc, hsz'⟩
            · obtain ⟨_, hbr, _⟩ := hH.blk _ _ hbx
              rcases hbr with ⟨_, rfl⟩ | ⟨g, _, _, _, _, h6, _⟩
              · simp at hbl
                have : a = 0 := by omega
                subst this hbl
                refine ⟨.slice none 0 0, ?_, ⟨_, ⟨rfl, rfl⟩, hU, fun t' l' h' => ⟨Nat.zero_le _, .inl ⟨hr, rfl, rfl⟩⟩⟩, rfl, rfl⟩
                have := hrun true 0 E.w (Nat.le_refl _)
                simp at this
                simp [Instr.sliceAt, run_underlying hu, Instr.slice, this, (hT.ty _ ti hti).sizeOf]
              · rw [hr] at h6; cases h6
            · refine ⟨_, by simp [Instr.sliceAt, run_underlying hu, Instr.slice, hrun true _ E.w hc, (hT.ty _ ti hti).sizeOf, hs]; exact rfl, ⟨_, ⟨rfl, rfl⟩, hU, fun t' l' h' => ?_⟩, rfl, rfl⟩
              rw [hbx] at h'
              injection h' with h'
              injection h' with e1 e2
              subst e1
              have e2 := eq_of_heq e2
              subst e2
              refine ⟨by omega, ?_⟩
              by_cases hca : cap = a
              · rw [if_pos hca]
                exact .inr ⟨g, _, _, hr, rfl, by omega, fun hpos => by omega⟩
              · rw [if_neg hca]
                exact .inr ⟨g, _, _, hr, rfl, by omega, fun _ => by simp [add_at]⟩
          · cases h
      · cases h
    · cases h
  · -- a part of a block
    rename_i e _ _ _ _ _ b off len ht
    have hu := (hT.ty t _ ht).und
    simp only [DescOk] at hu
    split at h
    · rename_i u l ti hb hti
      have hbx := hl _ _ hb
      split at h
      · rename_i hsz
        have hs := Nat.eq_of_beq_eq_true hsz
        split at h
        · rename_i p a c hbd
          simp only [okP, Option.some.injEq] at h
          subst h
          obtain ⟨hab, hbl, hrun⟩ := boundsA_run (P := P) h1 h2 hbd (hp _ rfl)
          obtain ⟨v, ⟨e, hv1⟩, hU, hh⟩ := hx
          injection e with e
          subst e
          obtain ⟨h0, hh⟩ := hh _ _ hbx
          rcases hh with ⟨hr, rfl, rfl⟩ | ⟨g, ad, cap, hr, rfl, hc, had⟩
          · have hc0 : c = 0 := by omega
            have ha0 : a = 0 := by omega
            subst hc0 ha0
            refine ⟨.slice none 0 0, ?_, ⟨_, ⟨rfl, rfl⟩, hU, fun t' l' h' => ?_⟩, rfl, rfl⟩
            · simp [Instr.sliceAt, run_underlying hu, Instr.slice, hrun true 0 E.w (Nat.le_refl _), (hT.ty _ ti hti).sizeOf]
            · rw [hbx] at h'
              injection h' with h'
              injection h' with e1 e2
              subst e1
              have e2 := eq_of_heq e2
              subst e2
              exact ⟨by omega, .inl ⟨hr, rfl, rfl⟩⟩
          · refine ⟨_, by simp [Instr.sliceAt, run_underlying hu, Instr.slice, hrun true _ E.w hc, (hT.ty _ ti hti).sizeOf, hs]; exact rfl, ⟨_, ⟨rfl, rfl⟩, hU, fun t' l' h' => ?_⟩, rfl, rfl⟩
            rw [hbx] at h'
            injection h' with h'
            injection h' with e1 e2
            subst e1
            have e2 := eq_of_heq e2
            subst e2
            refine ⟨by omega, ?_⟩
            by_cases hca : cap = a
            · rw [if_pos hca]
              exact .inr ⟨g, _, _, hr, rfl, by omega, fun hpos => by omega⟩
            · rw [if_neg hca]
              refine .inr ⟨g, _, _, hr, rfl, by omega, fun hpos => ?_⟩
              rw [had (by omega), add_at, Nat.add_mul]
        · cases h
      · cases h
    · cases h
  · -- nil
    rename_i ht
    have hu := (hT.ty t _ ht).und
    simp only [DescOk] at hu
    split at h
    · rename_i p a c ti hbd hti
      simp only [okP, Option.some.injEq] at h
      subst h
      obtain ⟨hab, hbl, hrun⟩ := boundsA_run (P := P) h1 h2 hbd (hp _ rfl)
      have hc0 : c = 0 := by omega
      have ha0 : a = 0 := by omega
      subst hc0 ha0
      obtain ⟨e, hv1⟩ := hx
      injection e with e
      subst e
      refine ⟨.slice none 0 0, ?_, ⟨rfl, rfl⟩, rfl, rfl⟩
      simp [Instr.sliceAt, run_underlying hu, Instr.slice, hrun true 0 E.w (Nat.le_refl _), (hT.ty _ ti hti).sizeOf]
    · cases h
  · -- an array
    rename_i m e _ _ _ _ _ b j ht
    have hu := (hT.ty t _ ht).und
    simp only [DescOk] at hu
    split at h
    · rename_i cs ti hb hti
      have hbx := hl _ _ hb
      split at h
      · rename_i k n l hit
        split at h
        · rename_i hsz
          simp only [Bool.and_eq_true] at hsz
          have hnm := Nat.eq_of_beq_eq_true hsz.1.1
          have hs1 := Nat.eq_of_beq_eq_true hsz.1.2
          have hpos : 0 < n := Nat.le_of_ble_eq_true hsz.2
          subst hnm
          simp only [ok1, Option.some.injEq] at h
          subst h
          cases vlo <;> cases vhi <;> simp only [OptR] at h1 h2
          obtain ⟨v, ⟨e, hv1⟩, hU, hh⟩ := hx
          injection e with e
          subst e
          obtain ⟨g, hr, rfl⟩ := hh _ hbx
          refine ⟨.slice (some ⟨g, j, none⟩) n n, ?_, ⟨_, ⟨rfl, rfl⟩, hU, fun cs' c h' hit' => ?_⟩, rfl, rfl⟩
          · simp [Instr.sliceAt, run_underlying hu, Instr.sliceBounds, (hT.ty _ ti hti).sizeOf, Instr.sureAddr, pt, Addr.add]
          · rw [hbx] at h'
            injection h' with h'
            injection h' with h'
            subst h'
            rw [hit] at hit'
            injection hit' with hit'
            subst hit'
            exact ⟨g, n, hr, rfl, Nat.le_refl _⟩
        · cases h
      · cases h
    · cases h
  · cases h
end
end Go.Fw

/- Addresses of fields and elements; parts of values; values built. -/
namespace Go.Fw
set_option linter.unusedVariables false
set_option linter.unusedSimpArgs false

section
variable {P : Program} {T : Tab}

theorem indexAddr_run {E : Env} {look : Nat → Option Blk} (hT : TabOk P T) (hH : HeapOk E) (hl : ∀ b x, look b = some x → E.H b = some x) {t : TypeId} {x i : AV} {vx vi : Value} {r : Res}
    (hx : AVR E x vx) (hi : AVR E i vi) (h : indexAddrA T look t x i = some r) (hp : ∀ p, r.pre = some p → p) :
    ∃ v, (Instr.indexAt t vx vi).run P E.w = .ok v E.w ∧ AVR E r.val v ∧ r.add = [] ∧ r.set = [] := by
  unfold indexAddrA at h
  split at h
  · rename_i k n
    obtain ⟨e, _⟩ := hi
    injection e with e
    subst e
    split at h
    · -- slices
      rename_i e _ _ _ _ _ ht
      have hu := (hT.ty t _ ht).und
      simp only [DescOk] at hu
      split at h
      · rename_i u l
        cases hti : T.ty e with
        | none => rw [hti] at h; cases h
        | some ti =>
          rw [hti] at h
          simp only at h
          cases hsz : Nat.beq ti.size u.size with
          | false => rw [hsz] at h; cases h
          | true =>
            rw [hsz] at h
            simp only [okP, Option.some.injEq] at h
            subst h
            have hs := Nat.eq_of_beq_eq_true hsz
            obtain ⟨h0, h1⟩ := hp _ rfl
            obtain ⟨v, e, hsl⟩ := hx
            injection e with e
            subst e
            obtain ⟨ad, cap, rfl, hc, hh⟩ := hsl
            obtain ⟨ad', us, rfl, hS, hlr, hcell⟩ := hh (by intro e; subst e; simp at h1; omega)
            refine ⟨.pointer (some (ad'.add (n.toNat * u.size))), ?_, ⟨by omega, ad', us, by simp, hS, hlr, hcell⟩, rfl, rfl⟩
            simp [Instr.indexAt, asIntOf, run_underlying hu, (hT.ty e ti hti).sizeOf, h0, h1, hs]
      · rename_i b
        split at h
        · rename_i u l ti hb hti
          have hbx := hl _ _ hb
          cases hsz : Nat.beq ti.size u.size with
          | false => rw [hsz] at h; cases h
          | true =>
            rw [hsz] at h
            simp only [okP, Option.some.injEq] at h
            subst h
            have hs := Nat.eq_of_beq_eq_true hsz
            obtain ⟨h0, h1⟩ := hp _ rfl
            obtain ⟨v, ⟨e, hv1⟩, hU, hh⟩ := hx
            injection e with e
            subst e
            rcases hh _ _ hbx with ⟨hr, rfl⟩ | ⟨g, cs, el, cap, hr, hw, rfl, hc, hsz'⟩
            · obtain ⟨_, hbr, _⟩ := hH.blk _ _ hbx
              rcases hbr with ⟨_, rfl⟩ | ⟨g, _, _, _, _, h6, _⟩
              · simp at h1; omega
              · rw [hr] at h6; cases h6
            · refine ⟨pt g (n.toNat * u.size), ?_, ⟨_, ⟨rfl, rfl⟩, hU, fun t' l' h' hi' => ?_⟩, rfl, rfl⟩
              · simp [Instr.indexAt, asIntOf, run_underlying hu, (hT.ty e ti hti).sizeOf, h0, h1, hs, pt, add_at]
              · rw [hbx] at h'
                injection h' with h'
                injection h' with e1 e2
                subst e1
                exact ⟨g, hr, rfl⟩
        · cases h
      · rename_i b off len
        split at h
        · rename_i u l ti hb hti
          have hbx := hl _ _ hb
          cases hsz : Nat.beq ti.size u.size with
          | false => rw [hsz] at h; cases h
          | true =>
            rw [hsz] at h
            simp only [okP, Option.some.injEq] at h
            subst h
            have hs := Nat.eq_of_beq_eq_true hsz
            obtain ⟨h0, h1⟩ := hp _ rfl
            obtain ⟨v, ⟨e, hv1⟩, hU, hh⟩ := hx
            injection e with e
            subst e
            obtain ⟨hle, hh⟩ := hh _ _ hbx
            rcases hh with ⟨hr, rfl, rfl⟩ | ⟨g, ad, cap, hr, rfl, hc, had⟩
            · simp at h1; omega
            · refine ⟨pt g ((off + n.toNat) * u.size), ?_, ⟨_, ⟨rfl, rfl⟩, hU, fun t' l' h' hi' => ?_⟩, rfl, rfl⟩
              · simp [Instr.indexAt, asIntOf, run_underlying hu, (hT.ty e ti hti).sizeOf, h0, h1, hs, pt, had (by omega), add_at, Nat.add_mul]
              · rw [hbx] at h'
                injection h' with h'
                injection h' with e1 e2
                subst e1
                exact ⟨g, hr, rfl⟩
        · cases h
      · rename_i b j m
        split at h
        · rename_i cs ti hb hti
          have hbx := hl _ _ hb
          cases hsz : Nat.beq ti.size 1 with
          | false => rw [hsz] at h; cases h
          | true =>
            rw [hsz] at h
            simp only [okP, Option.some.injEq] at h
            subst h
            have hs := Nat.eq_of_beq_eq_true hsz
            obtain ⟨h0, h1⟩ := hp _ rfl
            obtain ⟨v, ⟨e, hv1⟩, hU, hh⟩ := hx
            injection e with e
            subst e
            obtain ⟨g, cap, hr, rfl, hc⟩ := hh _ hbx
            refine ⟨pt g (j + n.toNat), ?_, ⟨_, ⟨rfl, rfl⟩, hU, fun cs' h' => ?_⟩, rfl, rfl⟩
            · simp [Instr.indexAt, asIntOf, run_underlying hu, (hT.ty e ti hti).sizeOf, h0, h1, hs, pt, add_at]
            · exact ⟨g, hr, rfl⟩
        · cases h
      · cases h
    · -- arrays
      rename_i m e _ _ _ _ _ ht
      have hu := (hT.ty t _ ht).und
      simp only [DescOk] at hu
      split at h
      · rename_i b j ti hti
        split at h
        · rename_i cs hb
          have hbx := hl _ _ hb
          cases hsz : Nat.beq ti.size 1 with
          | false => rw [hsz] at h; cases h
          | true =>
            rw [hsz] at h
            simp only [okP, Option.some.injEq] at h
            subst h
            have hs := Nat.eq_of_beq_eq_true hsz
            obtain ⟨h0, h1⟩ := hp _ rfl
            obtain ⟨v, ⟨e, hv1⟩, hU, hh⟩ := hx
            injection e with e
            subst e
            obtain ⟨g, hr, rfl⟩ := hh _ hbx
            refine ⟨pt g (j + n.toNat), ?_, ⟨_, ⟨rfl, rfl⟩, hU, fun cs' h' => ⟨g, hr, rfl⟩⟩, rfl, rfl⟩
            simp [Instr.indexAt, asIntOf, run_underlying hu, Instr.sureAddr, (hT.ty _ ti hti).sizeOf, h0, h1, hs, pt, add_at]
        · cases h
      · cases h
    · cases h
  · cases h

theorem fieldAddr_run {E : Env} {look : Nat → Option Blk} (hT : TabOk P T) (hl : ∀ b x, look b = some x → E.H b = some x) {s : TypeId} {x : AV} {vx : Value} {f : Nat} {r : Res}
    (hx : AVR E x vx) (h : fieldAddrA T look s x f = some r) (hp : ∀ p, r.pre = some p → p) :
    ∃ v, (Instr.fieldAt s vx f).run P E.w = .ok v E.w ∧ AVR E r.val v ∧ r.add = [] ∧ r.set = [] := by
  unfold fieldAddrA at h
  split at h
  · rename_i fs _ _ _ _ _ ht
    have hu := (hT.ty s _ ht).und
    simp only [DescOk] at hu
    obtain ⟨F, hF, hfs, _⟩ := hu
    split at h
    · rename_i u o hfo
      obtain ⟨fd, h1, h2, h3⟩ := hfs _ _ _ hfo
      cases hti : T.ty u with
      | none => rw [hti] at h; cases h
      | some ti =>
        rw [hti] at h
        simp only at h
        cases hpz : Nat.blt 0 ti.size with
        | false => rw [hpz] at h; cases h
        | true =>
          rw [hpz] at h
          simp only at h
          have hpos : 0 < ti.size := Nat.le_of_ble_eq_true hpz
          have hso : ∀ w, (sizeOf fd.type).run P w = .ok ti.size w := by rw [h2]; exact (hT.ty u ti hti).sizeOf
          have hne : ¬ ti.size = 0 := by omega
          have run : ∀ ad : Addr, (Instr.fieldAt s (.pointer (some ad)) f).run P E.w = .ok (.pointer (some (ad.add o))) E.w := by
            intro ad
            simp [Instr.fieldAt, run_underlying hF, h1, Instr.sureAddr, fieldPlace, hso, hne, h3]
          split at h
          · split at h
            · rename_i b j _ cs hb
              simp only [ok1, Option.some.injEq] at h
              subst h
              have hbx := hl _ _ hb
              obtain ⟨v, ⟨e, hv1⟩, hU, hh⟩ := hx
              injection e with e
              subst e
              obtain ⟨g, hr, rfl⟩ := hh _ hbx
              refine ⟨pt g (j + o), by rw [show pt g (j + o) = .pointer (some ((⟨g, j, none⟩ : Addr).add o)) from by rw [add_at]; rfl]; exact run _, ⟨_, ⟨rfl, rfl⟩, hU, fun cs' h' => ⟨g, hr, rfl⟩⟩, rfl, rfl⟩
            · cases h
          · split at h
            · rename_i b i j _ t' l hb
              simp only [okP, Option.some.injEq] at h
              subst h
              have hi := hp _ rfl
              have hbx := hl _ _ hb
              obtain ⟨v, ⟨e, hv1⟩, hU, hh⟩ := hx
              injection e with e
              subst e
              obtain ⟨g, hr, rfl⟩ := hh _ _ hbx hi
              refine ⟨pt g (i * t'.size + j + o), by rw [show pt g (i * t'.size + j + o) = .pointer (some ((⟨g, i * t'.size + j, none⟩ : Addr).add o)) from by rw [add_at]; rfl]; exact run _, ⟨_, ⟨rfl, rfl⟩, hU, fun t2 l2 h' hi' => ?_⟩, rfl, rfl⟩
              rw [hbx] at h'
              injection h' with h'
              injection h' with e1 e2
              subst e1
              exact ⟨g, hr, by rw [Nat.add_assoc]⟩
            · cases h
          · rename_i t' l i j
            simp only [ok1, Option.some.injEq] at h
            subst h
            obtain ⟨hi, ad, us, e, hS, hlr, hcell⟩ := hx
            injection e with e
            subst e
            refine ⟨_, run _, ⟨hi, ad, us, ?_, hS, hlr, hcell⟩, rfl, rfl⟩
            rw [addadd, Nat.add_assoc]
          · cases h
    · cases h
  · cases h

/-- a part of a value -/
theorem part_run {E : Env} (hT : TabOk P T) {u : TypeId} {ti : TI} (hti : T.ty u = some ti) {cs : List Cell} {vals : Array Value} (hr : IR E cs vals.toList) {o : Nat} :
    (∀ r, ti.isAgg = true → partItems cs o ti.size = some r → ∃ v, (part u vals o).run P E.w = .ok v E.w ∧ AVR E (.agg r) v) ∧
    (∀ c, ti.isAgg = false → itemAt cs o = some c → c.size = 1 → ∃ v, (part u vals o).run P E.w = .ok v E.w ∧ AVR E (.cell c) v) := by
  have hok := hT.ty u ti hti
  constructor
  · intro r hag h
    obtain ⟨a, m, b, e, ha, hm, hmr⟩ := partItems_rel hr h
    refine ⟨.agg (vals.extract o (o + ti.size)), by simp [part, hok.agg, hag, hok.sizeOf], _, rfl, ?_⟩
    have : (vals.extract o (o + ti.size)).toList = m := by
      rw [Array.toList_extract, e]
      simp [List.extract_eq_take_drop, ← ha, ← hm, List.drop_append]
    rw [this]
    exact hmr
  · intro c hag h hs
    obtain ⟨a, m, b, e, ha, hmr⟩ := itemAt_rel hr h
    have hml := hmr.len
    rw [hs] at hml
    match m, hml with
    | [v], _ =>
      have : vals[o]? = some v := by
        rw [← Array.getElem?_toList, e, List.append_assoc, List.getElem?_append_right (by omega), ha]; simp
      exact ⟨v, by simp [part, hok.agg, hag, this], hmr⟩

theorem run_size {c : Cell} (h : ∀ k n l, c ≠ .run k n l) : c.size = 1 := by
  cases c <;> first | rfl | exact absurd rfl (h _ _ _)

theorem field_run {E : Env} (hT : TabOk P T) {t : TypeId} {x : AV} {vx : Value} {f : Nat} {r : Res} (hx : AVR E x vx) (h : fieldA T t x f = some r) :
    ∃ v, (Instr.field t vx f).run P E.w = .ok v E.w ∧ AVR E r.val v ∧ r.add = [] ∧ r.set = [] ∧ r.pre = none := by
  unfold fieldA at h
  split at h
  · rename_i fs _ _ _ _ _ ht
    have hu := (hT.ty t _ ht).und
    simp only [DescOk] at hu
    obtain ⟨F, hF, hfs, _⟩ := hu
    split at h
    · rename_i u o hfo
      obtain ⟨fd, h1, h2, h3⟩ := hfs _ _ _ hfo
      split at h
      · rename_i ti cs hti
        obtain ⟨vals, rfl, hr⟩ := hx
        have hp := part_run (P := P) hT hti hr (o := o)
        have run : ∀ v, (part u vals o).run P E.w = .ok v E.w → (Instr.field t (.agg vals) f).run P E.w = .ok v E.w := by
          intro v hv
          simp [Instr.field, run_underlying hF, h1, asAgg, h2, h3, hv]
        cases hag : ti.isAgg with
        | true =>
          rw [hag] at h
          simp only at h
          cases hq : partItems cs o ti.size with
          | none => rw [hq] at h; cases h
          | some r' =>
            rw [hq] at h
            simp only [ok1, Option.some.injEq] at h
            subst h
            obtain ⟨v, hv, hvr⟩ := hp.1 r' hag hq
            exact ⟨v, run v hv, hvr, rfl, rfl, rfl⟩
        | false =>
          rw [hag] at h
          simp only at h
          split at h
          · cases h
          · rename_i c hq hnr
            simp only [ok1, Option.some.injEq] at h
            subst h
            obtain ⟨v, hv, hvr⟩ := hp.2 c hag hnr (run_size fun k n l e => hq k n l (by rw [← e]))
            exact ⟨v, run v hv, hvr, rfl, rfl, rfl⟩
          · cases h
      · cases h
    · cases h
  · cases h

theorem index_run {E : Env} (hT : TabOk P T) {t : TypeId} {x i : AV} {vx vi : Value} {r : Res} (hx : AVR E x vx) (hi : AVR E i vi) (h : indexA T t x i = some r) (hp : ∀ p, r.pre = some p → p) :
    ∃ v, (Instr.index t vx vi).run P E.w = .ok v E.w ∧ AVR E r.val v ∧ r.add = [] ∧ r.set = [] := by
  unfold indexA at h
  split at h
  · rename_i k n
    obtain ⟨e, _⟩ := hi
    injection e with e
    subst e
    split at h
    · rename_i m e _ _ _ _ _ k' m' l ht
      have hu := (hT.ty t _ ht).und
      simp only [DescOk] at hu
      cases hti : T.ty e with
      | none => rw [hti] at h; cases h
      | some ti =>
        rw [hti] at h
        simp only at h
        split at h
        · rename_i hc
          simp only [Bool.and_eq_true] at hc
          have hs := Nat.eq_of_beq_eq_true hc.1.1
          have hm := Nat.eq_of_beq_eq_true hc.1.2
          have hag : ti.isAgg = false := by simpa using hc.2
          subst hm
          simp only [okP, Option.some.injEq] at h
          subst h
          obtain ⟨h0, h1⟩ := hp _ rfl
          obtain ⟨vals, rfl, r', rest, e, ⟨hln, rfl⟩, hrest⟩ := hx
          simp only [IR] at hrest
          subst hrest
          have hget : vals[n.toNat]? = some (.int k' (l.getD n.toNat 0)) := by
            rw [← Array.getElem?_toList, e]
            simp [List.getD, List.getElem?_eq_getElem (show n.toNat < l.length by omega)]
          have hok := hT.ty _ ti hti
          refine ⟨_, ?_, ⟨rfl, rfl⟩, rfl, rfl⟩
          simp [Instr.index, asIntOf, run_underlying hu, h0, h1, hok.sizeOf, hs, part, hok.agg, hag, hget]
        · cases h
    · rename_i s ht
      have hu := (hT.ty t _ ht).und
      simp only [DescOk] at hu
      simp only [okP, Option.some.injEq] at h
      subst h
      obtain ⟨h0, h1⟩ := hp _ rfl
      obtain ⟨e, _⟩ := hx
      injection e with e
      subst e
      refine ⟨_, ?_, ⟨rfl, rfl⟩, rfl, rfl⟩
      have hlt : n.toNat < s.size := by omega
      have : byteAt s n.toNat = (s[n.toNat].toNat : Int) := by
        unfold byteAt
        have h5 : n.toNat < s.data.toList.length := by simpa using hlt
        rw [List.getD, List.getElem?_eq_getElem h5]
        simp only [Option.getD_some, Array.getElem_toList]
        rfl
      rw [this]
      simp [Instr.index, asIntOf, run_underlying hu, h0, hlt]
    · cases h
  · cases h

end
end Go.Fw

/- append and copy. -/
namespace Go.Fw
set_option linter.unusedVariables false
set_option linter.unusedSimpArgs false

section
variable {P : Program} {T : Tab}

theorem toNat_bytes {w : World} {S : Nat → Prop} : ∀ (l : List UInt8), ListRel (CR w S (.int .u8)) (l.map fun b => (b.toNat : Int)) (l.map fun b => Value.int .u8 b.toNat)
  | [] => rfl
  | b :: l => ⟨[.int .u8 b.toNat], _, rfl, rfl, toNat_bytes l⟩

theorem SlR.src {w0 : World} {S S' : Nat → Prop} {u : Ty} {l : List (Den u)} {vx : Value} (h : SlR w0 S' (CR w0 S u) l vx) :
    ∃ news : List Value, (∀ w, (Builtin.lenOf vx).run P w = .ok l.length w) ∧ ListRel (CR w0 S u) l news ∧
      ∀ k w, k ≤ l.length → (∀ a : Addr, w.cell? a = w0.cell? a) → (Builtin.firstCells u.size k vx).run P w = .ok (news.take (k * u.size)).toArray w := by
  obtain ⟨a, cap, rfl, hcap, hh⟩ := h
  by_cases hne : l = []
  · subst hne
    refine ⟨[], fun w => by simp [Builtin.lenOf], rfl, fun k w hk _ => ?_⟩
    have : k = 0 := by simpa using hk
    subst this
    cases a with
    | none => simp [Builtin.firstCells]
    | some ad =>
      have := run_loadCells_list (P := P) w ad [] (fun j v h => by simp at h)
      simpa [Builtin.firstCells] using this
  · obtain ⟨ad, us, rfl, _, hlr, hcell⟩ := hh hne
    refine ⟨us, fun w => by simp [Builtin.lenOf], hlr, fun k w hk hw => ?_⟩
    have hlen := hlr.len (n := u.size) (fun _ _ hx => hx.len)
    have hkl : (us.take (k * u.size)).length = k * u.size := by
      rw [List.length_take, hlen]
      exact Nat.min_eq_left (Nat.mul_le_mul_right _ hk)
    have := run_loadCells_list (P := P) w ad (us.take (k * u.size)) (fun j v h => by
      rw [hw]
      rw [List.getElem?_take] at h
      split at h
      · exact hcell j v h
      · cases h)
    rw [hkl] at this
    simpa [Builtin.firstCells] using this

theorem src_run {E : Env} {look : Nat → Option Blk} (hH : HeapOk E) (hl : ∀ b x, look b = some x → E.H b = some x) {u : Ty} {x : AV} {vx : Value} {l : List (Den u)} (hx : AVR E x vx) (h : srcA look u x = some l) :
    ∃ news : List Value, (∀ w, (Builtin.lenOf vx).run P w = .ok l.length w) ∧ ListRel (CR E.w E.S u) l news ∧
      ∀ k w, k ≤ l.length → (∀ a : Addr, w.cell? a = E.w.cell? a) → (Builtin.firstCells u.size k vx).run P w = .ok (news.take (k * u.size)).toArray w := by
  unfold srcA at h
  split at h
  · rename_i s
    split at h
    · rename_i hq he
      obtain rfl := hq.down
      injection h with h
      subst h
      obtain ⟨e, _⟩ := hx
      injection e with e
      subst e
      refine ⟨s.data.toList.map fun b => Value.int .u8 b.toNat, fun w => by simp [Builtin.lenOf, castL, bytesOf], by simpa [castL, bytesOf] using toNat_bytes s.data.toList, fun k w hk _ => ?_⟩
      have hk' : k ≤ s.size := by simpa [castL, bytesOf] using hk
      have e1 : (s.extract 0 k).data.map (fun b => Value.int .u8 (b.toNat : Int)) = ((s.data.toList.map fun b => Value.int .u8 (b.toNat : Int)).take (k * Ty.size (.int .u8))).toArray := by
        apply Array.ext'
        simp [Ty.size, ByteArray.data_extract, List.map_take]
      simp only [Builtin.firstCells]
      rw [e1]
      rfl
    · cases h
  · rename_i c hns
    exact (slAs_rel hH hl h hx).src
  · cases h

theorem isSrc_ok (hT : TabOk P T) {t : TypeId} (h : isSrc T t = true) : ∃ d, P.underlying t = some d ∧ ∀ k, d ≠ .int k := by
  unfold isSrc at h
  split at h
  · rename_i ht
    have := (hT.ty t _ ht).und
    exact ⟨_, this, fun k e => by cases e⟩
  · rename_i ht
    have := (hT.ty t _ ht).und
    exact ⟨_, this, fun k e => by cases e⟩
  · cases h

theorem nextcap_le {need old : Nat} (h : old < need) : Builtin.nextslicecap need old ≤ 2 * need := by
  unfold Builtin.nextslicecap
  split
  · omega
  · split
    · omega
    · have key : ∀ r c, c < need + (need + 768) / 4 + 1 → Builtin.growBy need r c ≤ need + (need + 768) / 4 := by
        intro r
        induction r with
        | zero => intro c hc; simp [Builtin.growBy]; omega
        | succ r ih =>
          intro c hc
          unfold Builtin.growBy
          split
          · omega
          · exact ih _ (by omega)
      have := key 4 old (by omega)
      omega

/-- an unbacked row: what append gives where there is nothing -/
def nilE (E : Env) (us : List Nat) (nm : Nat) (u : Ty) : Env :=
  { w := E.w, ρ := fun b => if b = nm then none else E.ρ b, S := SU E us, H := fun b => if b = nm then some (.arr u []) else if b ∈ us then none else E.H b, U := fun b => E.U b ∨ b = nm }

theorem Step.nil {E : Env} {r : Res} {nm : Nat} {us : List Nat} {u : Ty} (hH : HeapOk E) (hr1 : r.add = [.arr u []]) (hr2 : r.set = us.map fun u => (u, none)) (hnm : ¬ E.U nm) : Step E r nm (nilE E us nm u) := by
  have hk := killE_ok hH us
  have hext : Ext (killE E us) (nilE E us nm u) := by
    refine ⟨fun g hg => ⟨hg, rfl⟩, fun b hb => .inl hb, fun b x' hb hx => ?_⟩
    have hne : b ≠ nm := fun e => hnm (e ▸ hb)
    refine ⟨x', by simpa [nilE, killE, hne] using hx, by simp [nilE, killE, hne], rfl, fun g cs el _ h => ⟨cs, h, rfl⟩⟩
  have hold : ∀ b x, b ≠ nm → (nilE E us nm u).H b = some x → (killE E us).H b = some x := fun b x hne hx => by simpa [nilE, killE, hne] using hx
  refine ⟨(killE_ext us).trans hext, ⟨fun b x hx => ?_, fun b b' x x' g hx hx' hr hr' => ?_, hk.st⟩, fun b => ?_, fun b => ?_, fun F hF => ?_⟩
  · by_cases hb : b = nm
    · subst hb
      simp only [nilE, if_true, Option.some.injEq] at hx
      subst hx
      exact ⟨.inr rfl, .inl ⟨by simp [nilE], rfl⟩, fun g hg => by simp [nilE] at hg⟩
    · obtain ⟨h1, h2, h3⟩ := hk.blk b x (hold b x hb hx)
      exact ⟨.inl h1, h2.ext hext (by simp [nilE, killE, hb]) (fun _ _ => rfl), fun g hg => h3 g (by simpa [nilE, killE, hb] using hg)⟩
  · by_cases hb : b = nm
    · subst hb; simp [nilE] at hr
    · by_cases hb' : b' = nm
      · subst hb'; simp [nilE] at hr'
      · exact hk.inj b b' x x' g (hold b x hb hx) (hold b' x' hb' hx') (by simpa [nilE, killE, hb] using hr) (by simpa [nilE, killE, hb'] using hr')
  · rw [hr1, hr2]
    simp only [addF, nilE, setF_kill]
  · rw [hr1]
    simp only [nilE, List.length_singleton]
    constructor
    · rintro (h | h)
      · exact .inl h
      · exact .inr (by omega)
    · rintro (h | h)
      · exact .inl h
      · exact .inr (by omega)
  · have h := killE_fr us hF
    refine ⟨h.os, h.tape, h.output, h.size, h.old, fun b x g hx hr => ?_, h.S⟩
    by_cases hb : b = nm
    · subst hb; simp [nilE] at hr
    · exact h.own b x g (hold b x hb hx) (by simpa [nilE, killE, hb] using hr)

theorem nilE_own (E : Env) (us : List Nat) (nm : Nat) (u : Ty) : AVR (nilE E us nm u) (.cell (.own nm)) (.slice none 0 0) :=
  ⟨_, ⟨rfl, rfl⟩, .inr rfl, fun t l _ => .inl ⟨by simp [nilE], rfl⟩⟩

theorem size_zeroCells' (z : Array Value) (n : Nat) : (Builtin.zeroCells z n).size = n * z.size := by simp [Builtin.zeroCells]

theorem append_run {E : Env} {look : Nat → Option Blk} (hT : TabOk P T) (hH : HeapOk E) (hl : ∀ b x, look b = some x → E.H b = some x) {t t' ty : TypeId} {s x : AV} {vs vx : Value} {r : Res} {nm : Nat} (hnm : ¬ E.U nm) (hs : AVR E s vs) (hx : AVR E x vx)
    (h : appendA T look nm t t' s x = some r) (hp : ∀ p, r.pre = some p → p) : ∃ v E', (Builtin.append_ #[t, t'] ty #[vs, vx]).run P E.w = .ok v E'.w ∧ Step E r nm E' ∧ AVR E' r.val v := by
  unfold appendA at h
  cases he : etyOf T t with
  | none => rw [he] at h; cases h
  | some ub =>
    obtain ⟨u, by_⟩ := ub
    rw [he] at h
    simp only at h
    split at h
    · cases h
    · rename_i hc
      rw [Bool.and_eq_true] at hc
      obtain ⟨d, hd, hdk⟩ := isSrc_ok (P := P) hT hc.1
      have hby : 0 < by_ := Nat.le_of_ble_eq_true hc.2
      cases hsrc : srcA look u x with
      | none => rw [hsrc] at h; cases h
      | some l' =>
        rw [hsrc] at h
        simp only at h
        obtain ⟨news, hlen, hlr, hfirst⟩ := src_run (P := P) hH hl hx hsrc
        obtain ⟨e, i, z, hu, hi, hz, hisz, hib, hzs, hcr, hso, hze⟩ := ety_ok hT he
        have hnl := hlr.len (n := u.size) (fun _ _ hx => hx.len)
        have hones := hlr.ones fun _ _ hx => hx.ones
        have hzeros : (match d with | .int _ => true | _ => false) = false := by
          cases d <;> first | rfl | exact absurd rfl (hdk _)
        obtain ⟨W, hW⟩ : ∃ W : List Value → Nat → World, ∀ olds n, W olds n = E.w.drew.alloc (.cells (olds.toArray ++ news.toArray ++ Builtin.zeroCells z.cells n) e) := ⟨_, fun _ _ => rfl⟩
        -- what an append that must grow gives
        have grow : ∀ (base : Option Addr) (sLen sCap : Nat) (olds : List Value), ¬ sLen + l'.length ≤ sCap → sLen ≤ sCap → olds.length = sLen * u.size →
            (Builtin.firstCells u.size sLen (.slice base sLen sCap)).run P E.w.drew = .ok olds.toArray E.w.drew → (sLen + l'.length) * by_ ≤ 140737488355328 →
            ∃ cap, sLen + l'.length ≤ cap ∧ (Builtin.append_ #[t, t'] ty #[.slice base sLen sCap, vx]).run P E.w = .ok (.slice (some ⟨E.w.heap.size, 0, none⟩) (sLen + l'.length) cap) (W olds (cap - (sLen + l'.length))) := by
          intro base sLen sCap olds hroom hle hol hold hb
          refine ⟨grownCap E.w (sLen + l'.length) sCap e, grownCap_ge _ _ _ _, ?_⟩
          have hcap := nextcap_le (need := sLen + l'.length) (old := sCap) (by omega)
          have hfit : ¬ (281474976710656 < Builtin.nextslicecap (sLen + l'.length) sCap * by_) := by
            have := Nat.mul_le_mul_right by_ hcap
            rw [Nat.mul_assoc] at this
            omega
          have hnews := hfirst l'.length E.w.drew (Nat.le_refl _) (fun _ => rfl)
          rw [List.take_of_length_le (by rw [hnl]; exact Nat.le_refl _)] at hnews
          have hb0 : ¬ by_ = 0 := by omega
          rw [hW]
          have hdz : ∀ w, (underlying t').run P w = .ok d w := run_underlying hd
          simp [Builtin.append_, run_underlying hu, hso, hdz, hlen, hroom, typeInfo, hi, hib, hb0, hfit, Question.forced, hold, hnews, hze, newRow, grownCap]
          cases d <;> first | exact absurd rfl (hdk _) | (congr 2; apply Array.ext'; simp [List.append_assoc]; done)
        have newW : ∀ (olds : List Value) (n : Nat), (W olds n).heap = E.w.heap.push (.cells (olds.toArray ++ news.toArray ++ Builtin.zeroCells z.cells n) e) := fun _ _ => by rw [hW]; rfl
        have newW1 : ∀ (olds : List Value) (n : Nat), (W olds n).os = E.w.os := fun _ _ => by rw [hW]; rfl
        have newW2 : ∀ (olds : List Value) (n : Nat), (W olds n).tape = E.w.tape := fun _ _ => by rw [hW]; rfl
        have newW3 : ∀ (olds : List Value) (n : Nat), (W olds n).output = E.w.output := fun _ _ => by rw [hW]; rfl
        split at h
        · -- onto nil
          simp only [Option.some.injEq] at h
          subst h
          have hb := hp _ rfl
          obtain ⟨e', _⟩ := hs
          injection e' with e'
          subst e'
          by_cases h0 : l' = []
          · subst h0
            refine ⟨.slice none 0 0, nilE E [] nm u, ?_, Step.nil (us := []) hH rfl rfl hnm, nilE_own _ _ _ _⟩
            have hf := hfirst 0 E.w (Nat.le_refl _) (fun _ => rfl)
            simp at hf
            have hdz : ∀ w, (underlying t').run P w = .ok d w := run_underlying hd
            simp at hlen
            simp [Builtin.append_, run_underlying hu, hso, hdz]
            cases d <;> first | exact absurd rfl (hdk _) | (simp [hlen, hf, nilE]; done)
          · have hne : l'.length ≠ 0 := fun e => h0 (List.eq_nil_of_length_eq_zero e)
            obtain ⟨cap, hc1, hrun⟩ := grow none 0 0 [] (by omega) (Nat.le_refl _) (by simp) (by simp [Builtin.firstCells]) (by simpa using hb)
            refine ⟨_, newE (killE E []) nm (.arr u l') (W [] (cap - (0 + l'.length))), hrun, Step.newK (us := []) hH rfl rfl hnm (newW [] _) (newW1 _ _) (newW2 _ _) (newW3 _ _) ?_, ?_⟩
            · exact ⟨news, (Builtin.zeroCells z.cells (cap - (0 + l'.length))).toList, by simp, hlr.mono fun _ _ hx => hx.mono fun _ hg => ⟨.inl hg, rfl⟩⟩
            · have := newE_own (killE E []) nm (t := u) (l := l') (cap := cap) (newW [] (cap - (0 + l'.length))) (by omega) (by
                simp [size_zeroCells', hzs, hnl]
                rw [← Nat.add_mul]
                exact Nat.mul_le_mul_right _ (by omega))
              simpa [killE] using this
        · -- onto a row of one's own
          rename_i b
          split at h
          · rename_i u' l hb
            split at h
            · rename_i hq heq
              obtain rfl := hq.down
              simp only [Option.some.injEq] at h
              subst h
              have hbound := hp _ rfl
              have hbx := hl _ _ hb
              obtain ⟨_, hbr, _⟩ := hH.blk _ _ hbx
              obtain ⟨v, ⟨e', hv1⟩, hU, hh⟩ := hs
              injection e' with e'
              subst e'
              simp only [castL]
              rcases hh _ _ hbx with ⟨hr, rfl⟩ | ⟨g, cs, el, cap, hr, hw, rfl, hc', hsz'⟩
              · rcases hbr with ⟨_, rfl⟩ | ⟨g, _, _, _, _, h6, _⟩
                · by_cases h0 : l' = []
                  · subst h0
                    refine ⟨.slice none 0 0, nilE E [b] nm u', ?_, Step.nil (us := [b]) hH rfl rfl hnm, nilE_own _ _ _ _⟩
                    have hf := hfirst 0 E.w (Nat.le_refl _) (fun _ => rfl)
                    simp at hf
                    have hdz : ∀ w, (underlying t').run P w = .ok d w := run_underlying hd
                    simp at hlen
                    simp [Builtin.append_, run_underlying hu, hso, hdz]
                    cases d <;> first | exact absurd rfl (hdk _) | (simp [hlen, hf, nilE]; done)
                  · have hne : l'.length ≠ 0 := fun e => h0 (List.eq_nil_of_length_eq_zero e)
                    obtain ⟨cap, hc1, hrun⟩ := grow none 0 0 [] (by omega) (Nat.le_refl _) (by simp) (by simp [Builtin.firstCells]) (by simpa using hbound)
                    refine ⟨_, newE (killE E [b]) nm (.arr u' l') (W [] (cap - (0 + l'.length))), hrun, Step.newK (us := [b]) hH (by simp) rfl hnm (newW [] _) (newW1 _ _) (newW2 _ _) (newW3 _ _) ?_, ?_⟩
                    · exact ⟨news, (Builtin.zeroCells z.cells (cap - (0 + l'.length))).toList, by simp, hlr.mono fun _ _ hx => hx.mono fun _ hg => ⟨.inl hg, rfl⟩⟩
                    · have := newE_own (killE E [b]) nm (t := u') (l := l') (cap := cap) (newW [] (cap - (0 + l'.length))) (by omega) (by
                        simp [size_zeroCells', hzs, hnl]
                        rw [← Nat.add_mul]
                        exact Nat.mul_le_mul_right _ (by omega))
                      simpa [killE] using this
                · rw [hr] at h6; cases h6
              · -- a row in memory
                have hbr' : ∃ us spare, cs.toList = us ++ spare ∧ ListRel (CR E.w E.S u') l us := by
                  rcases hbr with ⟨h6, _⟩ | ⟨g', cs', el', us, spare, h6, h7, h8, h9⟩
                  · rw [hr] at h6; cases h6
                  · rw [hr] at h6; injection h6 with h6; subst h6
                    rw [hw] at h7; injection h7 with h7; injection h7 with e1 e2
                    subst e1
                    exact ⟨us, spare, h8, h9⟩
                obtain ⟨us, spare, h8, h9⟩ := hbr'
                have hul := h9.len (n := u'.size) (fun _ _ hx => hx.len)
                have hcl : cs.size = us.length + spare.length := by
                  have := congrArg List.length h8
                  simpa using this
                by_cases hroom : l.length + l'.length ≤ cap
                · -- there is room
                  have hfit : l.length * u'.size + news.length ≤ cs.size := by
                    rw [hnl, ← Nat.add_mul]
                    exact Nat.le_trans (Nat.mul_le_mul_right _ hroom) hsz'
                  have hst := run_storeCells_at P g (l.length * u'.size) el news 0 cs E.w hw (by simpa using hfit) hones
                  simp only [Nat.add_zero] at hst
                  have hf := hfirst l'.length E.w (Nat.le_refl _) (fun _ => rfl)
                  rw [List.take_of_length_le (by rw [hnl]; exact Nat.le_refl _)] at hf
                  have hdz : ∀ w, (underlying t').run P w = .ok d w := run_underlying hd
                  have hrun : (Builtin.append_ #[t, t'] ty #[.slice (some ⟨g, 0, none⟩) l.length cap, vx]).run P E.w = .ok (.slice (some ⟨g, 0, none⟩) (l.length + l'.length) cap)
                      (E.w.setRow g (cs.toList.take (l.length * u'.size) ++ news ++ cs.toList.drop (l.length * u'.size + news.length)).toArray) := by
                    simp [Builtin.append_, run_underlying hu, hso, hdz]
                    cases d <;> first | exact absurd rfl (hdk _) | (simp [hlen, hroom, hf, add_at, hst]; done)
                  have hnewl : cs.toList.take (l.length * u'.size) = us := by
                    rw [h8, ← hul]; simp
                  rw [hnewl] at hrun
                  have hsize : (us ++ news ++ cs.toList.drop (l.length * u'.size + news.length)).toArray.size = cs.size := by
                    simp; omega
                  have hwr := writes_setRow hw hsize
                  refine ⟨_, appE E b nm (.arr u' (l ++ l')) _, hrun, Step.app (x := .arr u' l) hH rfl rfl hnm hbx hr hwr ⟨u', l ++ l', us ++ news, cs.toList.drop (l.length * u'.size + news.length), rfl, by simp, h9.append hlr⟩, ?_⟩
                  refine ⟨_, ⟨rfl, rfl⟩, .inr rfl, fun t2 l2 h2 => ?_⟩
                  simp only [appE, if_true, Option.some.injEq, Blk.arr.injEq] at h2
                  obtain ⟨rfl, h2⟩ := h2
                  have h2 := eq_of_heq h2
                  subst h2
                  exact .inr ⟨g, _, el, cap, by simp [appE, hr], hwr.is, by simp, by simpa using hroom, by rw [hsize]; exact hsz'⟩
                · -- it must grow
                  have hold : (Builtin.firstCells u'.size l.length (.slice (some ⟨g, 0, none⟩) l.length cap)).run P E.w.drew = .ok us.toArray E.w.drew := by
                    have := run_loadCells_list (P := P) E.w.drew ⟨g, 0, none⟩ us (fun j v hj => by
                      rw [show E.w.drew.cell? = E.w.cell? from rfl, add_at, Nat.zero_add, cell_at hw, ← Array.getElem?_toList, h8, List.getElem?_append_left (by exact (List.getElem?_eq_some_iff.1 hj).1)]
                      exact hj)
                    rw [hul] at this
                    simpa [Builtin.firstCells] using this
                  obtain ⟨cap', hc1, hrun⟩ := grow (some ⟨g, 0, none⟩) l.length cap us hroom hc' hul hold hbound
                  refine ⟨_, newE (killE E [b]) nm (.arr u' (l ++ l')) (W us (cap' - (l.length + l'.length))), hrun, Step.newK (us := [b]) hH rfl rfl hnm (newW us _) (newW1 _ _) (newW2 _ _) (newW3 _ _) ?_, ?_⟩
                  · exact ⟨us ++ news, (Builtin.zeroCells z.cells (cap' - (l.length + l'.length))).toList, by simp, (h9.append hlr).mono fun _ _ hx => hx.mono fun _ hg => ⟨.inl hg, rfl⟩⟩
                  · have := newE_own (killE E [b]) nm (t := u') (l := l ++ l') (cap := cap') (newW us (cap' - (l.length + l'.length))) (by simp; omega) (by
                      simp [size_zeroCells', hzs, hnl, hul]
                      rw [← Nat.add_mul, ← Nat.add_mul]
                      exact Nat.mul_le_mul_right _ (by omega))
                    simpa [killE] using this
            · cases h
          · cases h
        · cases h
end
end Go.Fw

