/- Items; types; loads, stores, addresses. -/
import Derived.Test.YtblnigjmcjpopaaFw5
import Derived.Laws.CopyRow
import Derived.Laws.Entries
import Derived.Laws.MakeOwn
namespace Go.Fw
set_option linter.unusedVariables false
set_option linter.unusedSimpArgs false

theorem sizes_cons (c : Cell) (cs : List Cell) : sizes (c :: cs) = c.size + sizes cs := rfl

theorem itemAt_rel {E : Env} : ∀ {cs : List Cell} {vs : List Value} {j : Nat} {c : Cell}, IR E cs vs → itemAt cs j = some c → ∃ a r b, vs = a ++ r ++ b ∧ a.length = j ∧ CellR E c r
  | [], _, _, _, _, h => by simp [itemAt] at h
  | x :: xs, _, j, c, ⟨r, rest, e, h1, h2⟩, h => by
    subst e
    unfold itemAt at h
    cases h0 : Nat.beq j 0 with
    | true =>
      rw [h0] at h; injection h with h; subst h
      exact ⟨[], r, rest, rfl, (Nat.eq_of_beq_eq_true h0).symm, h1⟩
    | false =>
      rw [h0] at h
      simp only at h
      cases h3 : Nat.ble x.size j with
      | true =>
        rw [h3] at h
        have hle := Nat.le_of_ble_eq_true h3
        obtain ⟨a, r', b, rfl, ha, hc⟩ := itemAt_rel h2 h
        exact ⟨r ++ a, r', b, by simp, by simp [h1.len, ha]; omega, hc⟩
      | false => rw [h3] at h; cases h

theorem takeItems_rel {E : Env} : ∀ {cs : List Cell} {vs : List Value} {n : Nat} {r : List Cell}, IR E cs vs → takeItems cs n = some r → ∃ a b, vs = a ++ b ∧ a.length = n ∧ IR E r a
  | [], vs, n, r, h1, h => by
    unfold takeItems at h
    cases h0 : Nat.beq n 0 with
    | true => rw [h0] at h; injection h with h; subst h; exact ⟨[], vs, rfl, (Nat.eq_of_beq_eq_true h0).symm, rfl⟩
    | false => rw [h0] at h; cases h
  | x :: xs, _, n, r, ⟨v, rest, e, h1, h2⟩, h => by
    subst e
    unfold takeItems at h
    cases h0 : Nat.beq n 0 with
    | true => rw [h0] at h; injection h with h; subst h; exact ⟨[], _, rfl, (Nat.eq_of_beq_eq_true h0).symm, rfl⟩
    | false =>
      rw [h0] at h
      simp only at h
      cases h3 : Nat.ble x.size n with
      | true =>
        rw [h3] at h
        have hle := Nat.le_of_ble_eq_true h3
        cases h4 : takeItems xs (n - x.size) with
        | none => rw [h4] at h; cases h
        | some r' =>
          rw [h4] at h
          injection h with h
          subst h
          obtain ⟨a, b, rfl, ha, hr⟩ := takeItems_rel h2 h4
          exact ⟨v ++ a, b, by simp, by simp [h1.len, ha]; omega, v, a, rfl, h1, hr⟩
      | false => rw [h3] at h; cases h

theorem partItems_rel {E : Env} : ∀ {cs : List Cell} {vs : List Value} {j n : Nat} {r : List Cell}, IR E cs vs → partItems cs j n = some r → ∃ a m b, vs = a ++ m ++ b ∧ a.length = j ∧ m.length = n ∧ IR E r m
  | cs, vs, j, n, r, h1, h => by
    unfold partItems at h
    cases h0 : Nat.beq j 0 with
    | true =>
      rw [h0] at h
      obtain ⟨a, b, rfl, ha, hr⟩ := takeItems_rel h1 h
      exact ⟨[], a, b, rfl, (Nat.eq_of_beq_eq_true h0).symm, ha, hr⟩
    | false =>
      rw [h0] at h
      simp only at h
      cases cs with
      | nil => cases h
      | cons x xs =>
        simp only at h
        obtain ⟨v, rest, rfl, h2, h3⟩ := h1
        cases h4 : Nat.ble x.size j with
        | true =>
          rw [h4] at h
          have hle := Nat.le_of_ble_eq_true h4
          obtain ⟨a, m, b, rfl, ha, hm, hr⟩ := partItems_rel h3 h
          exact ⟨v ++ a, m, b, by simp, by simp [h2.len, ha]; omega, hm, hr⟩
        | false => rw [h4] at h; cases h

theorem setItem_rel {E : Env} {x : Cell} {xv : List Value} (hx : CellR E x xv) : ∀ {cs cs' : List Cell} {vs : List Value} {j : Nat}, IR E cs vs → setItem cs j x = some cs' →
    ∃ a r b, vs = a ++ r ++ b ∧ a.length = j ∧ r.length = x.size ∧ IR E cs' (a ++ xv ++ b) ∧ cs'.map Cell.size = cs.map Cell.size
  | [], _, _, _, _, h => by simp [setItem] at h
  | c :: cs, cs', _, j, ⟨v, rest, e, h1, h2⟩, h => by
    subst e
    unfold setItem at h
    cases h0 : Nat.beq j 0 with
    | true =>
      rw [h0] at h
      simp only at h
      cases h3 : Nat.beq c.size x.size with
      | true =>
        rw [h3] at h
        injection h with h
        subst h
        have := Nat.eq_of_beq_eq_true h3
        exact ⟨[], v, rest, rfl, (Nat.eq_of_beq_eq_true h0).symm, by rw [h1.len, this], ⟨xv, rest, by simp, hx, h2⟩, by simp [this]⟩
      | false => rw [h3] at h; cases h
    | false =>
      rw [h0] at h
      simp only at h
      cases h3 : Nat.ble c.size j with
      | true =>
        rw [h3] at h
        have hle := Nat.le_of_ble_eq_true h3
        cases h4 : setItem cs (j - c.size) x with
        | none => rw [h4] at h; cases h
        | some r' =>
          rw [h4] at h
          injection h with h
          subst h
          obtain ⟨a, r, b, rfl, ha, hr, hi, hs⟩ := setItem_rel hx h2 h4
          exact ⟨v ++ a, r, b, by simp, by simp [h1.len, ha]; omega, hr, ⟨v, a ++ xv ++ b, by simp, h1, hi⟩, by simp [hs]⟩
      | false => rw [h3] at h; cases h

theorem append3_inj {a a' r r' b b' : List Value} (h : a ++ r ++ b = a' ++ r' ++ b') (h1 : a.length = a'.length) (h2 : r.length = r'.length) : a = a' ∧ r = r' ∧ b = b' := by
  rw [List.append_assoc, List.append_assoc] at h
  obtain ⟨e1, e2⟩ := List.append_inj h h1
  obtain ⟨e3, e4⟩ := List.append_inj e2 h2
  exact ⟨e1, e3, e4⟩

theorem setItems_rel {E : Env} : ∀ {xs : List Cell} {xvs : List Value} {cs cs' : List Cell} {vs : List Value} {j : Nat}, IR E xs xvs → IR E cs vs → setItems cs j xs = some cs' → j ≤ vs.length →
    ∃ a r b, vs = a ++ r ++ b ∧ a.length = j ∧ r.length = xvs.length ∧ IR E cs' (a ++ xvs ++ b) ∧ cs'.map Cell.size = cs.map Cell.size
  | [], _, cs, cs', vs, j, hx, h1, h, hj => by
    simp only [IR] at hx
    subst hx
    simp only [setItems, Option.some.injEq] at h
    subst h
    exact ⟨vs.take j, [], vs.drop j, by simp, by simp [hj], rfl, by simpa using h1, rfl⟩
  | x :: xs, _, cs, cs', vs, j, ⟨xv, xvs, e, hx, hxs⟩, h1, h, hj => by
    subst e
    unfold setItems at h
    cases h2 : setItem cs j x with
    | none => rw [h2] at h; cases h
    | some cs1 =>
      rw [h2] at h
      simp only at h
      obtain ⟨a, r, b, rfl, ha, hr, hi, hs⟩ := setItem_rel hx h1 h2
      obtain ⟨a', r', b', e, ha', hr', hi', hs'⟩ := setItems_rel hxs hi h (by simp [ha, hx.len])
      have hxl := hx.len
      have hlen : (a ++ xv).length = a'.length := by simp [ha, ha', hxl]
      obtain ⟨e0, e1⟩ := List.append_inj (show (a ++ xv) ++ b = a' ++ (r' ++ b') by rw [e, List.append_assoc]) hlen
      subst e0 e1
      refine ⟨a, r ++ r', b', by simp, ha, by simp [hr, hxl, hr'], by simpa using hi', hs'.trans hs⟩

theorem foldl_sizes : ∀ (cs : List Cell) (n : Nat), cs.foldl (fun n c => n + c.size) n = n + sizes cs
  | [], n => rfl
  | c :: cs, n => by rw [List.foldl_cons, foldl_sizes cs, sizes_cons]; omega

-- types

def isAggD : TypeDesc → Bool
  | .struct _ | .array _ _ => true
  | _ => false

def DescOk (P : Program) : TD → TypeId → Prop
  | .int k, t => P.underlying t = some (.int k)
  | .bool, t => P.underlying t = some .bool
  | .str, t => P.underlying t = some .string
  | .slice e, t => P.underlying t = some (.slice e)
  | .struct fs, t => ∃ F, P.underlying t = some (.struct F) ∧ (∀ (i : Nat) u o, fs[i]? = some (u, o) → ∃ f : Field, F[i]? = some f ∧ f.type = u ∧ f.offset = o) ∧ (∀ f ∈ F, ∃ i, P.info? f.type = some i)
  | .array n e, t => P.underlying t = some (.array n e)
  | .ptr e, t => P.underlying t = some (.pointer e)
  | .iface, t => ∃ ms, P.underlying t = some (.interface ms)
  | .map k e, t => P.underlying t = some (.map k e)
  | .other, t => ∃ d, P.underlying t = some d ∧ isAggD d = false

def Ty.by_ : Ty → Nat
  | .int k => k.bits / 8
  | .ints k n => n * (k.bits / 8)
  | .bool => 1
  | .str => 16
  | .sl _ => 24
  | .pair a b => a.by_ + b.by_
def fitsF (P : Program) (g : Ty → TypeId → Bool) : Ty → List Field → Nat → Bool
  | _, [], _ => false
  | u, [f], off => g u f.type && Nat.beq f.offset off && Nat.beq (P.cellsOf f.type) u.size
  | u, f :: fs, off => match u with
    | .pair a b => g a f.type && Nat.beq f.offset off && Nat.beq (P.cellsOf f.type) a.size && fitsF P g b fs (off + a.size)
    | _ => false
def tyFits (P : Program) : Nat → Ty → TypeId → Bool
  | 0, _, _ => false
  | n + 1, u, t => match P.underlying t, u with
    | some .bool, .bool => true
    | some (.int k), .int k' => decide (k' = k)
    | some .string, .str => true
    | some (.slice e), .sl v => tyFits P n v e && Nat.beq (P.cellsOf e) v.size && Nat.ble 1 v.size && Nat.ble v.by_ (P.bytesOf e)
    | some (.struct F), u => fitsF P (tyFits P n) u F.toList 0 && Nat.beq (P.cellsOf t) u.size
    | some (.array m e), .ints k m' => match P.underlying e with
      | some (.int k') => decide (k' = k) && Nat.beq m' m && Nat.beq (P.cellsOf e) 1 && Nat.beq (P.cellsOf t) m
      | _ => false
    | _, _ => false

def isAggT (P : Program) (t : TypeId) : Bool := match P.underlying t with | some (.struct _) => true | some (.array _ _) => true | _ => false
/-- may values of a type be compared cell by cell -/
def cmpOk (P : Program) (u : Option Ty) (t : TypeId) : Bool := match u with
  | some u => isAggT P t && P.keyTypeAt 30 t && tyFits P 30 u t && !P.eqGuardType P.depth t
  | none => false

structure TyOk (P : Program) (t : TypeId) (ti : TI) : Prop where
  und : DescOk P ti.desc t
  inf : ∃ i z, P.info? t = some i ∧ i.size = ti.size ∧ i.bytes = ti.bytes ∧ i.zero = some z ∧ (∀ E : Env, IR E ti.zero z.cells.toList) ∧ z.cells.size = ti.size ∧
    (∀ u, ti.ety = some u → u.size = ti.size ∧ ∀ w S, CR w S u (dflt u) z.cells.toList)
  cmp : ti.cmp = true → cmpOk P ti.ety t = true
  nag : ti.isAgg = false → ∀ i z, P.info? t = some i → i.zero = some z → z.cells.toList = [z]

structure TabOk (P : Program) (T : Tab) : Prop where
  ty : ∀ t ti, T.ty t = some ti → TyOk P t ti
  meth : ∀ t name f, T.meth t name = some f → ∀ v w, (method (P.types.size + Made.depth) t v name).run P w = .ok (f, v) w

section
variable {P : Program} {T : Tab}

theorem TyOk.agg {t : TypeId} {ti : TI} (h : TyOk P t ti) (w : World) : (isAgg t).run P w = .ok ti.isAgg w := by
  have key : ∃ d, P.underlying t = some d ∧ isAggD d = ti.isAgg := by
    have := h.und
    unfold TI.isAgg
    cases hd : ti.desc <;> rw [hd] at this <;> simp only [DescOk] at this
    case struct => obtain ⟨F, h1, _⟩ := this; exact ⟨_, h1, rfl⟩
    case iface => obtain ⟨F, h1⟩ := this; exact ⟨_, h1, rfl⟩
    case other => exact this
    all_goals exact ⟨_, this, rfl⟩
  obtain ⟨d, h1, h2⟩ := key
  rw [← h2]
  unfold isAgg
  simp only [Sem.run_bind, run_underlying h1, Result.andThen_ok]
  cases d <;> rfl

theorem TyOk.sizeOf {t : TypeId} {ti : TI} (h : TyOk P t ti) (w : World) : (sizeOf t).run P w = .ok ti.size w := by
  obtain ⟨i, z, h1, h2, _⟩ := h.inf
  simp [Go.sizeOf, typeInfo, h1, h2]

theorem TyOk.zero {t : TypeId} {ti : TI} (h : TyOk P t ti) : ∃ z, (∀ w, (zeroValue t).run P w = .ok z w) ∧ (∀ E : Env, IR E ti.zero z.cells.toList) ∧ z.cells.size = ti.size ∧
    (∀ u, ti.ety = some u → u.size = ti.size ∧ ∀ w S, CR w S u (dflt u) z.cells.toList) := by
  obtain ⟨i, z, h1, h2, h3, h4, h5, h6, h7⟩ := h.inf
  exact ⟨z, fun w => by simp [zeroValue, typeInfo, h1, h4], h5, h6, h7⟩

theorem op_value {o : Oper} {a : Act} {w w' : World} {v : Value} {next : Act → World → Prop} {Q : Exit → Act → World → Prop} (h : (execOp a.eval o).run P w = .ok (.value v) w') (hn : next (a.put o.dst v) w') : o.wp P a w next Q := by
  unfold Oper.wp; rw [h]; exact hn
theorem op_skip {o : Oper} {a : Act} {w w' : World} {next : Act → World → Prop} {Q : Exit → Act → World → Prop} (h : (execOp a.eval o).run P w = .ok .skip w') (hn : next (a.put o.dst undef) w') : o.wp P a w next Q := by
  unfold Oper.wp; rw [h]; exact hn

/-- what a load gives -/
theorem load_run {E : Env} {look : Nat → Option Blk} (hT : TabOk P T) (hH : HeapOk E) (hl : ∀ b x, look b = some x → E.H b = some x) {t : TypeId} {a : AV} {va : Value} {r : Res} (ha : AVR E a va)
    (h : loadA T look t a = some r) (hp : ∀ p, r.pre = some p → p) : ∃ v, (Instr.loadAt t va).run P E.w = .ok v E.w ∧ AVR E r.val v ∧ r.add = [] ∧ r.set = [] := by
  -- from the cells of a place
  have agg : ∀ {ti : TI} {cs r' : List Cell} {us : List Value} {ad : Addr} {j : Nat}, TyOk P t ti → ti.isAgg = true → IR E cs us → partItems cs j ti.size = some r' → (∀ k u, us[k]? = some u → E.w.cell? (ad.add k) = some u) →
      ∃ v, (Instr.loadAt t (.pointer (some (ad.add j)))).run P E.w = .ok v E.w ∧ AVR E (.agg r') v := by
    intro ti cs r' us ad j hti hag hr hpart hc
    obtain ⟨x, m, y, rfl, hx, hm, hmr⟩ := partItems_rel hr hpart
    refine ⟨.agg m.toArray, ?_, m.toArray, rfl, by simpa using hmr⟩
    have hl : (loadCells (ad.add j) ti.size).run P E.w = .ok m.toArray E.w := by
      rw [← hm]
      refine run_loadCells_list _ _ m fun k u hu => ?_
      have := hc (j + k) u (by rw [List.append_assoc, List.getElem?_append_right (by omega), hx, List.getElem?_append_left (by simpa using (List.getElem?_eq_some_iff.1 hu).1)]; simpa using hu)
      rw [← this]
      congr 1
      unfold Addr.add
      by_cases h1 : j = 0 <;> by_cases h2 : k = 0 <;> simp [h1, h2, Nat.add_assoc]
    simp [Instr.loadAt, Instr.sureAddr, loadVar, hti.agg, hag, hti.sizeOf, hl]
  have one : ∀ {ti : TI} {cs : List Cell} {c : Cell} {us : List Value} {ad : Addr} {j : Nat}, TyOk P t ti → ti.isAgg = false → IR E cs us → itemAt cs j = some c → c.size = 1 → (∀ k u, us[k]? = some u → E.w.cell? (ad.add k) = some u) →
      ∃ v, (Instr.loadAt t (.pointer (some (ad.add j)))).run P E.w = .ok v E.w ∧ AVR E (.cell c) v := by
    intro ti cs c us ad j hti hag hr hitem hs hc
    obtain ⟨x, m, y, rfl, hx, hmr⟩ := itemAt_rel hr hitem
    have hml := hmr.len
    rw [hs] at hml
    match m, hml with
    | [v], _ =>
      refine ⟨v, ?_, hmr⟩
      have := hc j v (by rw [List.append_assoc, List.getElem?_append_right (by omega), hx]; simp)
      simp [Instr.loadAt, Instr.sureAddr, loadVar, hti.agg, hag, this]
  have run1 : ∀ {c : Cell}, (∀ k n l, c ≠ .run k n l) → c.size = 1 := by
    intro c hc
    cases c <;> first | rfl | exact absurd rfl (hc _ _ _)
  unfold loadA at h
  cases hti : T.ty t with
  | none => rw [hti] at h; cases h
  | some ti =>
    rw [hti] at h
    simp only at h
    have hok := hT.ty t ti hti
    match a, h, ha with
    | .one (.c (.ptr b j)), h, ha =>
      simp only at h
      cases hb : look b with
      | none => rw [hb] at h; cases h
      | some x =>
        rw [hb] at h
        cases x with
        | arr _ _ => cases h
        | mp _ _ _ _ => cases h
        | var cs =>
          simp only at h
          have hx := hl _ _ hb
          obtain ⟨_, ⟨g', cs', el', h6, h7, h8⟩, _⟩ := hH.blk _ _ hx
          obtain ⟨v, ⟨e, _⟩, hu, hh⟩ := ha
          injection e with e
          subst e
          obtain ⟨g, h1, rfl⟩ := hh _ hx
          rw [h1] at h6; injection h6 with h6; subst h6
          have hcell : ∀ k u, cs'.toList[k]? = some u → E.w.cell? ((⟨g, 0, none⟩ : Addr).add k) = some u := fun k u hu => by
            rw [add_at, Nat.zero_add, cell_at h7, ← Array.getElem?_toList]; exact hu
          have hpt : pt g j = .pointer (some ((⟨g, 0, none⟩ : Addr).add j)) := by rw [add_at, Nat.zero_add]; rfl
          cases hag : ti.isAgg with
          | true =>
            rw [hag] at h
            simp only at h
            cases hq : partItems cs j ti.size with
            | none => rw [hq] at h; cases h
            | some r' =>
              rw [hq] at h
              simp only [ok1, Option.some.injEq] at h
              subst h
              obtain ⟨v, hv, hvr⟩ := agg hok hag h8 hq hcell
              exact ⟨v, by rw [hpt]; exact hv, hvr, rfl, rfl⟩
          | false =>
            rw [hag] at h
            simp only at h
            split at h
            · cases h
            · rename_i c hq hnr
              simp only [ok1, Option.some.injEq] at h
              subst h
              obtain ⟨v, hv, hvr⟩ := one hok hag h8 hnr (run1 fun k n l e => hq k n l (by rw [← e])) hcell
              exact ⟨v, by rw [hpt]; exact hv, hvr, rfl, rfl⟩
            · cases h
    | .one (.c (.pidx b j i)), h, ha =>
      simp only at h
      cases hb : look b with
      | none => rw [hb] at h; cases h
      | some x =>
        rw [hb] at h
        cases x with
        | arr _ _ => cases h
        | mp _ _ _ _ => cases h
        | var cs =>
          simp only at h
          have hx := hl _ _ hb
          obtain ⟨_, ⟨g', cs', el', h6, h7, h8⟩, _⟩ := hH.blk _ _ hx
          obtain ⟨v, ⟨e, _⟩, hu, hh⟩ := ha
          injection e with e
          subst e
          obtain ⟨g, h1, rfl⟩ := hh _ hx
          rw [h1] at h6; injection h6 with h6; subst h6
          cases hag : ti.isAgg with
          | true => rw [hag] at h; cases h
          | false =>
            rw [hag] at h
            simp only at h
            split at h
            · rename_i k n l hq
              simp only [okP, Option.some.injEq] at h
              subst h
              have hi := hp _ rfl
              obtain ⟨x, m, y, e, hx', hlen, rfl⟩ := itemAt_rel h8 hq
              refine ⟨.int k (l.getD i 0), ?_, ⟨rfl, rfl⟩, rfl, rfl⟩
              have : E.w.cell? ⟨g, j + i, none⟩ = some (.int k (l.getD i 0)) := by
                rw [cell_at h7, ← Array.getElem?_toList, e, List.append_assoc, List.getElem?_append_right (by omega), hx', show j + i - j = i from by omega, List.getElem?_append_left (by simp; omega)]
                simp [List.getD, List.getElem?_eq_getElem (show i < l.length by omega)]
              simp [Instr.loadAt, Instr.sureAddr, pt, loadVar, hok.agg, hag, this]
            · cases h
    | .one (.c (.pel b i j)), h, ha =>
      simp only at h
      cases hb : look b with
      | none => rw [hb] at h; cases h
      | some x =>
        rw [hb] at h
        cases x with
        | var _ => cases h
        | mp _ _ _ _ => cases h
        | arr u l =>
          simp only at h
          have hx := hl _ _ hb
          obtain ⟨_, hbr, _⟩ := hH.blk _ _ hx
          obtain ⟨v, ⟨e, _⟩, hu, hh⟩ := ha
          injection e with e
          subst e
          have main : i < l.length → ∃ (us : List Value) (ad : Addr), IR E (cells u (l.getD i (dflt u))) us ∧ va = .pointer (some (Addr.add ad j)) ∧ ∀ k w, us[k]? = some w → E.w.cell? (ad.add k) = some w := by
            intro hi
            obtain ⟨g, h1, rfl⟩ := hh _ _ hx hi
            rcases hbr with ⟨h6, rfl⟩ | ⟨g', cs', el', us, spare, h6, h7, h8, h9⟩
            · simp at hi
            · rw [h1] at h6; injection h6 with h6; subst h6
              obtain ⟨p, q, s, rfl, hp1, hq⟩ := h9.get (fun _ _ hx => hx.len) hi
              have hg : l.getD i (dflt u) = l[i] := by simp [List.getD, List.getElem?_eq_getElem hi]
              rw [hg]
              refine ⟨q, ⟨g, i * u.size, none⟩, hq.items, by rw [add_at]; rfl, fun k w hw => ?_⟩
              rw [add_at, cell_at h7, ← Array.getElem?_toList, h8, List.append_assoc, List.append_assoc, List.getElem?_append_right (by omega), hp1, show i * u.size + k - i * u.size = k from by omega,
                List.getElem?_append_left (by exact (List.getElem?_eq_some_iff.1 hw).1)]
              exact hw
          cases hag : ti.isAgg with
          | true =>
            rw [hag] at h
            simp only at h
            cases hq : partItems (cells u (l.getD i (dflt u))) j ti.size with
            | none => rw [hq] at h; cases h
            | some r' =>
              rw [hq] at h
              simp only [okP, Option.some.injEq] at h
              subst h
              obtain ⟨us, ad, h1, rfl, h2⟩ := main (hp _ rfl)
              obtain ⟨v, hv, hvr⟩ := agg hok hag h1 hq h2
              exact ⟨v, hv, hvr, rfl, rfl⟩
          | false =>
            rw [hag] at h
            simp only at h
            split at h
            · cases h
            · rename_i c hq hnr
              simp only [okP, Option.some.injEq] at h
              subst h
              obtain ⟨us, ad, h1, rfl, h2⟩ := main (hp _ rfl)
              obtain ⟨v, hv, hvr⟩ := one hok hag h1 hnr (run1 fun k n l e => hq k n l (by rw [← e])) h2
              exact ⟨v, hv, hvr, rfl, rfl⟩
            · cases h
    | .one (.c (.rptr u l i j)), h, ha =>
      simp only at h
      obtain ⟨hi, ad, us0, e, hs, hlr, hcell⟩ := ha
      injection e with e
      subst e
      have main : ∃ us ad', IR E (cells u (l.getD i (dflt u))) us ∧ ad.add (i * u.size + j) = Addr.add ad' j ∧ ∀ k w, us[k]? = some w → E.w.cell? (ad'.add k) = some w := by
        obtain ⟨p, q, s, rfl, hp1, hq⟩ := hlr.get (fun _ _ hx => hx.len) hi
        have hg : l.getD i (dflt u) = l[i] := by simp [List.getD, List.getElem?_eq_getElem hi]
        rw [hg]
        refine ⟨q, ad.add (i * u.size), hq.items, ?_, fun k w hw => ?_⟩
        · unfold Addr.add
          by_cases h1 : i * u.size = 0 <;> by_cases h2 : j = 0 <;> simp [h1, h2, Nat.add_assoc]
        · have := hcell (i * u.size + k) w (by
            rw [List.append_assoc, List.getElem?_append_right (by omega), hp1, show i * u.size + k - i * u.size = k from by omega, List.getElem?_append_left (by exact (List.getElem?_eq_some_iff.1 hw).1)]
            exact hw)
          rw [← this]
          congr 1
          unfold Addr.add
          by_cases h1 : i * u.size = 0 <;> by_cases h2 : k = 0 <;> simp [h1, h2, Nat.add_assoc]
      obtain ⟨us, ad', h1, e, h2⟩ := main
      rw [e]
      cases hag : ti.isAgg with
      | true =>
        rw [hag] at h
        simp only at h
        cases hq : partItems (cells u (l.getD i (dflt u))) j ti.size with
        | none => rw [hq] at h; cases h
        | some r' =>
          rw [hq] at h
          simp only [ok1, Option.some.injEq] at h
          subst h
          obtain ⟨v, hv, hvr⟩ := agg hok hag h1 hq h2
          exact ⟨v, hv, hvr, rfl, rfl⟩
      | false =>
        rw [hag] at h
        simp only at h
        split at h
        · cases h
        · rename_i c hq hnr
          simp only [ok1, Option.some.injEq] at h
          subst h
          obtain ⟨v, hv, hvr⟩ := one hok hag h1 hnr (run1 fun k n l e => hq k n l (by rw [← e])) h2
          exact ⟨v, hv, hvr, rfl, rfl⟩
        · cases h

theorem writes_setRow {E : Env} {g : Nat} {cs cs' : Array Value} {el : TypeId} (h : E.w.heap[g]? = some (.cells cs el (0, 0))) (hs : cs'.size = cs.size) : Writes E g cs cs' el (E.w.setRow g cs') :=
  ⟨h, setRow_heap _ _ _ _ _ _ h, hs, fun i hi => setRow_other _ _ _ _ hi, by simp, rfl, rfl, rfl⟩

end
end Go.Fw
