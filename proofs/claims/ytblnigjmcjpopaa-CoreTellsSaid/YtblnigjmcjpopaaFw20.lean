/- Regions in the order of the text, code, loops, functions. -/
import Derived.Test.YtblnigjmcjpopaaFw19
import Derived.Laws.Cover3
namespace Go.Fw
set_option linter.unusedVariables false
set_option linter.unusedSimpArgs false

structure Sim (st : St) (E : Env) (a : Act) : Prop where
  defers : a.defers = []
  len : a.tmps.size = st.tmps.length
  tmp : ∀ (i : Nat) x, st.tmps[i]? = some x → ∃ v, a.tmps[i]? = some v ∧ AVR E x v
  ok : HeapOk E
  H : ∀ b, E.H b = st.look b
  U : ∀ b, E.U b → b < st.heap.length

/-- what has become of the world since the call began -/
structure Fr (E0 E : Env) : Prop where
  fr : FrameOk (frameOf E0) E
  ext : Ext E0 E

section
variable {P : Program} {T : Tab}

theorem constV_rel (E : Env) (v : Value) : AVR E (constV v) v := by
  unfold constV
  split
  · rename_i cs
    split
    · rename_i h
      refine ⟨cs, rfl, ?_⟩
      have h : ∀ u ∈ cs.toList, u.oneCell' = true := fun u hu => List.all_eq_true.1 h u hu
      generalize cs.toList = l at h
      induction l with
      | nil => exact rfl
      | cons u l ih => exact ⟨[u], l, rfl, ⟨rfl, h u (by simp)⟩, ih fun x hx => h x (by simp [hx])⟩
    · trivial
  · trivial
  · rename_i h1 h2
    refine ⟨rfl, ?_⟩
    cases v <;> first | rfl | exact absurd rfl (h1 _) | exact absurd rfl (h2 _)

theorem Sim.at_ {st : St} {E : Env} {a : Act} (h : Sim st E a) (t : Tmp) : AVR E (st.tmp t) (a.tmps.getD t undef) := by
  unfold St.tmp
  cases hx : st.tmps[t]? with
  | none => simp [List.getD, hx]; trivial
  | some x =>
    obtain ⟨v, h1, h2⟩ := h.tmp t x hx
    simp [List.getD, hx, h1]
    exact h2

theorem Sim.eval {st : St} {E : Env} {a : Act} (h : Sim st E a) (x : Operand) : AVR E (st.eval x) (a.eval x) := by
  cases x with
  | tmp t => exact h.at_ t
  | const v => exact constV_rel E v
  | func f => exact ⟨#[], rfl, rfl, fun i b hb => by simp at hb⟩
  | global g => trivial

theorem look_setAt : ∀ (h : List (Option Blk)) (n : Nat) (o : Option Blk) (b : Nat), (match (setAt h n o)[b]? with | some x => x | none => none) = if b = n then o else (match h[b]? with | some x => x | none => none)
  | [], 0, o, b => by
    cases b with
    | zero => simp [setAt]
    | succ b => simp [setAt]
  | [], n + 1, o, b => by
    cases b with
    | zero => simp [setAt]
    | succ b => simpa [setAt] using look_setAt [] n o b
  | x :: r, 0, o, b => by
    cases b with
    | zero => simp [setAt]
    | succ b => simp [setAt]
  | x :: r, n + 1, o, b => by
    cases b with
    | zero => simp [setAt]
    | succ b => simpa [setAt] using look_setAt r n o b

theorem len_setAt : ∀ (h : List (Option Blk)) (n : Nat) (o : Option Blk), (setAt h n o).length = max h.length (n + 1)
  | [], 0, o => by simp [setAt]
  | [], n + 1, o => by simp [setAt, len_setAt [] n o]
  | x :: r, 0, o => by simp [setAt]
  | x :: r, n + 1, o => by simp [setAt, len_setAt r n o]

theorem look_setAll : ∀ (l : List (Nat × Option Blk)) (h : List (Option Blk)) (b : Nat), (match (setAll h l)[b]? with | some x => x | none => none) = setF (fun b => match h[b]? with | some x => x | none => none) l b
  | [], h, b => rfl
  | (n, o) :: l, h, b => by
    rw [setAll, look_setAll l, setF]
    congr 1
    funext c
    exact look_setAt h n o c

theorem len_setAll : ∀ (l : List (Nat × Option Blk)) (h : List (Option Blk)), h.length ≤ (setAll h l).length
  | [], h => Nat.le_refl _
  | (n, o) :: l, h => by
    rw [setAll]
    have := len_setAll l (setAt h n o)
    rw [len_setAt] at this
    omega

theorem look_addAll : ∀ (l : List Blk) (h : List (Option Blk)) (nm b : Nat), (match (addAll h nm l)[b]? with | some x => x | none => none) = addF (fun b => match h[b]? with | some x => x | none => none) nm l b
  | [], h, nm, b => rfl
  | x :: l, h, nm, b => by
    rw [addAll, look_addAll l, addF]
    congr 1
    funext c
    exact look_setAt h nm (some x) c

theorem len_addAll : ∀ (l : List Blk) (h : List (Option Blk)) (nm : Nat), h.length ≤ (addAll h nm l).length ∧ (0 < l.length → nm + l.length ≤ (addAll h nm l).length)
  | [], h, nm => ⟨Nat.le_refl _, fun h => by simp at h⟩
  | x :: l, h, nm => by
    rw [addAll]
    obtain ⟨h1, h2⟩ := len_addAll l (setAt h nm (some x)) (nm + 1)
    rw [len_setAt] at h1
    refine ⟨by omega, fun _ => ?_⟩
    simp only [List.length_cons]
    by_cases hl : 0 < l.length
    · have := h2 hl; omega
    · have : l.length = 0 := by omega
      omega

theorem look_act (st : St) (nm : Nat) (r : Res) (b : Nat) : (st.act nm r).look b = addF (setF st.look r.set) nm r.add b := by
  show (match (addAll (setAll st.heap r.set) nm r.add)[b]? with | some x => x | none => none) = _
  refine (look_addAll _ _ _ _).trans ?_
  congr 1
  funext c
  exact look_setAll r.set st.heap c

theorem Sim.step {st : St} {E E' : Env} {a : Act} {nm : Nat} {r : Res} {v : Value} {dst : Option Tmp} (h : Sim st E a) (hs : Step E r nm E') (hv : AVR E' r.val v) : Sim ((st.act nm r).put dst r.val) E' (a.put dst v) := by
  have hlook : ∀ b, ((st.act nm r).put dst r.val).look b = (st.act nm r).look b := fun b => by cases dst <;> rfl
  have hheap : ((st.act nm r).put dst r.val).heap = (st.act nm r).heap := by cases dst <;> rfl
  refine ⟨by cases dst <;> exact h.defers, ?_, fun i x hx => ?_, hs.ok, fun b => ?_, fun b hb => ?_⟩
  · cases dst with
    | none => exact h.len
    | some d => simp [Act.put, St.put, St.act, h.len]
  · cases dst with
    | none =>
      obtain ⟨u, h1, h2⟩ := h.tmp i x hx
      exact ⟨u, h1, h2.ext hs.ext⟩
    | some d =>
      simp only [St.put, St.act, List.getElem?_set] at hx
      by_cases hd : d = i
      · subst hd
        simp only [if_true] at hx
        split at hx
        · rename_i hlt
          injection hx with hx
          subst hx
          exact ⟨v, by simp [Act.put, h.len, hlt], hv⟩
        · cases hx
      · rw [if_neg hd] at hx
        obtain ⟨u, h1, h2⟩ := h.tmp i x hx
        exact ⟨u, by simp [Act.put, Array.getElem?_setIfInBounds_ne hd, h1], h2.ext hs.ext⟩
  · rw [hlook, hs.H, look_act]
    congr 1
    funext c
    congr 1
    funext d
    exact h.H d
  · rw [hheap]
    have h1 := len_setAll r.set st.heap
    obtain ⟨h2, h3⟩ := len_addAll r.add (setAll st.heap r.set) nm
    have h4 : (st.act nm r).heap = addAll (setAll st.heap r.set) nm r.add := rfl
    rw [h4]
    rcases (hs.U b).1 hb with h5 | ⟨h5, h6⟩
    · have := h.U b h5
      omega
    · have := h3 (by omega)
      omega

theorem Fr.step {E0 E E' : Env} {nm : Nat} {r : Res} (h : Fr E0 E) (hs : Step E r nm E') : Fr E0 E' := ⟨hs.fr _ h.fr, h.ext.trans hs.ext⟩

theorem need_out {p : Option Prop} {q : Prop} (h : need p q) : (∀ x, p = some x → x) ∧ q := by
  cases p with
  | none => exact ⟨fun x hx => (by cases hx), h⟩
  | some p =>
    have := Need.out h
    exact ⟨fun x hx => by injection hx with hx; subst hx; exact this.1, this.2⟩

theorem nilTest_run (hT : TabOk P T) {o : Oper} {st : St} {E : Env} {a : Act} (hs : Sim st E a) {eq : Bool} {A B : Prop} (h : nilTest T st o = some (eq, A, B)) :
    ∃ nil : Bool, (execOp a.eval o).run P E.w = .ok (.value (.bool (if nil then eq else !eq))) E.w ∧ (nil = true → A) ∧ (nil = false → B) := by
  have key : ∀ {op : BinOp} {t e : TypeId} {x : Operand} {v : Value} {nil : Bool}, (op = .eql ∨ op = .neq) → P.underlying t = some (.slice e) → a.eval x = v → (∃ ad n c, v = .slice ad n c ∧ ad.isNone = nil) →
      (do eqGuard op t x (.const (.slice none 0 0)) v (.slice none 0 0); binOp op t v (.slice none 0 0) : Sem Value).run P E.w = .ok (.bool (if nil then decide (op = .eql) else !decide (op = .eql))) E.w := by
    rintro op t e x v nil hop hu hx ⟨ad, n, c, rfl, rfl⟩
    rcases hop with rfl | rfl
    · have h1 : (Op.equal t (.slice ad n c) (.slice none 0 0)).run P E.w = .ok ad.isNone E.w := run_equal_slice_nil E.w t e ad n c hu
      simp [eqGuard, binOp, h1]
      cases ad <;> rfl
    · have h1 : (binOp .neq t (.slice ad n c) (.slice none 0 0)).run P E.w = .ok (.bool (!ad.isNone)) E.w := run_neq_slice_nil E.w t e ad n c hu
      simp [eqGuard, h1]
      cases ad <;> rfl
  have rel : ∀ {c : Cell} {t : Ty} {l : List (Den t)} {v : Value}, sliceOf st.look c = some ⟨t, l⟩ → CellR E c [v] → ∃ ad n cp, v = .slice ad n cp ∧ (ad.isNone = true → l.length = 0) := by
    intro c t l v h hc
    obtain ⟨ad, cap, e, _, h2⟩ := sliceOf_rel hs.ok (fun b x hb => (hs.H b).trans hb) h hc
    refine ⟨ad, _, cap, e, fun hn => ?_⟩
    cases l with
    | nil => rfl
    | cons y l =>
      obtain ⟨ad', _, he, _⟩ := h2 (by simp)
      rw [he] at hn; cases hn
  obtain ⟨dst, op, ty, pos, after, guard⟩ := o
  unfold nilTest at h
  simp only at h
  split at h
  · rename_i bop t x bty
    split at h
    · rename_i ti hti
      have hok := (hT.ty _ _ hti).und
      have fin : ∀ {bop : BinOp} {e : TypeId} {eq : Bool} {A B : Prop}, (bop = .eql ∨ bop = .neq) → decide (bop = .eql) = eq → P.underlying t = some (.slice e) →
          (match st.eval x with
            | .one (.c (.imm (.slice none 0 0))) => some (eq, True, False)
            | .one (.c c) => match sliceOf st.look c with | some ⟨_, l⟩ => some (eq, l.length = 0, True) | none => none
            | _ => none) = some (eq, A, B) →
          ∃ nil : Bool, (execOp a.eval { dst := dst, op := .binOp bop t x (.const (.slice none 0 0)) bty, type := ty, pos := pos, after := after, guard := guard }).run P E.w = .ok (.value (.bool (if nil then eq else !eq))) E.w ∧ (nil = true → A) ∧ (nil = false → B) := by
        intro bop e eq A B hop heq hu h
        have he := hs.eval x
        have vl : ∀ (s : Sem Value) v w', s.run P E.w = .ok v w' → (do pure (.value (← s)) : Sem Next).run P E.w = .ok (.value v) w' := fun s v w' hs => by simp [hs]
        split at h
        · rename_i hx
          rw [hx] at he
          obtain ⟨hv, _⟩ := he
          injection hv with hv
          simp only [Option.some.injEq, Prod.mk.injEq] at h
          obtain ⟨_, rfl, rfl⟩ := h
          refine ⟨true, ?_, fun _ => trivial, fun h => by cases h⟩
          have := key (nil := true) hop hu rfl ⟨none, 0, 0, hv, rfl⟩
          rw [heq] at this
          exact vl _ _ _ this
        · rename_i c _ hx
          rw [hx] at he
          split at h
          · rename_i t' l hsl
            simp only [Option.some.injEq, Prod.mk.injEq] at h
            obtain ⟨_, rfl, rfl⟩ := h
            obtain ⟨ad, n, cp, hv, hn⟩ := rel hsl he
            refine ⟨ad.isNone, ?_, hn, fun _ => trivial⟩
            have := key (nil := ad.isNone) hop hu rfl ⟨ad, n, cp, hv, rfl⟩
            rw [heq] at this
            exact vl _ _ _ this
          · cases h
        · cases h
      split at h
      · rename_i e hd
        rw [hd] at hok
        have hq : eq = true := by
          split at h
          · simp only [Option.some.injEq, Prod.mk.injEq] at h; exact h.1.symm
          · split at h
            · simp only [Option.some.injEq, Prod.mk.injEq] at h; exact h.1.symm
            · cases h
          · cases h
        subst hq
        exact fin (.inl rfl) rfl hok h
      · rename_i e hd
        rw [hd] at hok
        have hq : eq = false := by
          split at h
          · simp only [Option.some.injEq, Prod.mk.injEq] at h; exact h.1.symm
          · split at h
            · simp only [Option.some.injEq, Prod.mk.injEq] at h; exact h.1.symm
            · cases h
          · cases h
        subst hq
        exact fin (.inr rfl) rfl hok h
      · cases h
    · cases h
  · cases h

theorem Sim.putV {st : St} {E : Env} {a : Act} (h : Sim st E a) (dst : Option Tmp) {x : AV} {v : Value} (hx : AVR E x v) : Sim (st.put dst x) E (a.put dst v) := by
  cases dst with
  | none => exact h
  | some d =>
    refine ⟨h.defers, by simp [St.put, Act.put, h.len], fun i y hy => ?_, h.ok, h.H, h.U⟩
    simp only [St.put, List.getElem?_set] at hy
    by_cases hd : d = i
    · subst hd
      simp only [if_true] at hy
      split at hy
      · rename_i hlt
        injection hy with hy
        subst hy
        exact ⟨v, by simp [Act.put, h.len, hlt], hx⟩
      · cases hy
    · rw [if_neg hd] at hy
      obtain ⟨u, h1, h2⟩ := h.tmp i y hy
      exact ⟨u, by simp [Act.put, Array.getElem?_setIfInBounds_ne hd, h1], h2⟩

theorem doOp_sound (hT : TabOk P T) (hP : SpecsOk P T) {o : Oper} {nm : Nat} {st : St} {K : St → Prop} (h : doOp T o nm st K) {E0 E : Env} {a : Act} (hs : Sim st E a) (hf : Fr E0 E) (hnm : st.heap.length ≤ nm)
    {next : Act → World → Prop} {Q : Exit → Act → World → Prop} (hn : ∀ st' E' a', Sim st' E' a' → Fr E0 E' → K st' → next a' E'.w) : o.wp P a E.w next Q := by
  unfold doOp at h
  split at h
  · rename_i A B hnil
    obtain ⟨nil, hr, hA, hB⟩ := nilTest_run hT hs hnil
    cases h with
    | mk h1 h2 =>
      refine op_value hr ?_
      cases nil with
      | true => have := h1 (hA rfl); rw [fSt_eq] at this; exact hn _ E _ (hs.putV (x := .cell (bv _)) o.dst ⟨rfl, rfl⟩) hf this
      | false => have := h2 (hB rfl); rw [fSt_eq] at this; exact hn _ E _ (hs.putV (x := .cell (bv _)) o.dst ⟨rfl, rfl⟩) hf this
  · rename_i A B hnil
    obtain ⟨nil, hr, hA, hB⟩ := nilTest_run hT hs hnil
    cases h with
    | mk h1 h2 =>
      refine op_value hr ?_
      cases nil with
      | true => have := h1 (hA rfl); rw [fSt_eq] at this; exact hn _ E _ (hs.putV (x := .cell (bv _)) o.dst ⟨rfl, rfl⟩) hf this
      | false => have := h2 (hB rfl); rw [fSt_eq] at this; exact hn _ E _ (hs.putV (x := .cell (bv _)) o.dst ⟨rfl, rfl⟩) hf this
  split at h
  · rename_i r hr
    obtain ⟨hp, hk⟩ := need_out h
    rw [fRes_eq, fSt_eq] at hk
    exact dstep_sound hT hP hs.ok hs.eval (fun b x hb => (hs.H b).trans hb) hr hp (fun k _ hU => by have := hs.U _ hU; omega) fun E' v h1 h2 => hn _ E' _ (hs.step h1 h2) (hf.step h1) hk
  · exact h.elim

theorem Sim.same {st : St} {E : Env} {a : Act} (h : Sim st E a) {d : Tmp} {x : AV} (hx : AVR E x (a.tmps.getD d undef)) : Sim (st.put (some d) x) E a := by
  refine ⟨h.defers, by simp [St.put, h.len], fun i y hy => ?_, h.ok, h.H, h.U⟩
  simp only [St.put, List.getElem?_set] at hy
  by_cases hd : d = i
  · subst hd
    simp only [if_true] at hy
    split at hy
    · rename_i hlt
      injection hy with hy
      subst hy
      have hlt' : d < a.tmps.size := by rw [h.len]; exact hlt
      refine ⟨a.tmps[d], by simp [hlt'], ?_⟩
      simpa [hlt'] using hx
    · cases hy
  · rw [if_neg hd] at hy
    exact h.tmp i y hy

theorem Sim.dead {st : St} {E : Env} {a : Act} (h : Sim st E a) (dst : Option Tmp) : Sim (st.put dst .dead) E (a.put dst undef) := by
  cases dst with
  | none => exact h
  | some d =>
    refine ⟨h.defers, by simp [St.put, Act.put, h.len], fun i y hy => ?_, h.ok, h.H, h.U⟩
    simp only [St.put, List.getElem?_set] at hy
    by_cases hd : d = i
    · subst hd
      simp only [if_true] at hy
      split at hy
      · rename_i hlt
        injection hy with hy
        subst hy
        exact ⟨undef, by simp [Act.put, h.len, hlt], trivial⟩
      · cases hy
    · rw [if_neg hd] at hy
      obtain ⟨u, h1, h2⟩ := h.tmp i y hy
      exact ⟨u, by simp [Act.put, Array.getElem?_setIfInBounds_ne hd, h1], h2⟩

theorem Sim.skip {st : St} {E : Env} {a : Act} (h : Sim st E a) (dst : Option Tmp) : Sim (st.put dst (.tup [])) E (a.put dst undef) := by
  cases dst with
  | none => exact h
  | some d =>
    refine ⟨h.defers, by simp [St.put, Act.put, h.len], fun i y hy => ?_, h.ok, h.H, h.U⟩
    simp only [St.put, List.getElem?_set] at hy
    by_cases hd : d = i
    · subst hd
      simp only [if_true] at hy
      split at hy
      · rename_i hlt
        injection hy with hy
        subst hy
        exact ⟨undef, by simp [Act.put, h.len, hlt], ⟨#[], rfl, rfl⟩⟩
      · cases hy
    · rw [if_neg hd] at hy
      obtain ⟨u, h1, h2⟩ := h.tmp i y hy
      exact ⟨u, by simp [Act.put, Array.getElem?_setIfInBounds_ne hd, h1], h2⟩

/-- a guard's test, in both readings -/
theorem guard_rel {ops : Array Oper} {o : Oper} {d : Tmp} {want b : Bool} {st : St} {E : Env} {a : Act} (h : Sim st E a) (hg : guardTmp ops o = some (some (d, want))) (hb : st.tmp d = .cell (bv b)) :
    Region.wanted o (yielded ops a.tmps) = (b == want) ∧ a.tmps.getD d undef = .bool b := by
  have hrel := h.at_ d
  rw [hb] at hrel
  obtain ⟨e, _⟩ := hrel
  injection e with e
  refine ⟨?_, e⟩
  unfold guardTmp at hg
  unfold Region.wanted
  cases ho : o.guard with
  | none => rw [ho] at hg; cases hg
  | some jw =>
    obtain ⟨j, w⟩ := jw
    rw [ho] at hg
    simp only at hg
    cases hj : ops[j]? with
    | none => rw [hj] at hg; cases hg
    | some oj =>
      rw [hj] at hg
      simp only at hg
      cases hd : oj.dst with
      | none => rw [hd] at hg; cases hg
      | some d' =>
        rw [hd] at hg
        simp only [Option.some.injEq, Prod.mk.injEq] at hg
        obtain ⟨rfl, rfl⟩ := hg
        have hlt : d' < a.tmps.size := by
          rcases Nat.lt_or_ge d' a.tmps.size with h | h
          · exact h
          · rw [Array.getD_eq_getD_getElem?, Array.getElem?_eq_none h] at e
            simp [undef] at e
        have : a.tmps[d']? = some (.bool b) := by
          rw [Array.getElem?_eq_getElem hlt, ← e]
          simp [hlt]
        simp [yielded, hj, hd, this]

theorem guard_tup {ops : Array Oper} {o : Oper} {d : Tmp} {want : Bool} {st : St} {E : Env} {a : Act} (h : Sim st E a) (hg : guardTmp ops o = some (some (d, want))) (hb : st.tmp d = .tup []) :
    Region.wanted o (yielded ops a.tmps) = false := by
  have hrel := h.at_ d
  rw [hb] at hrel
  obtain ⟨vs, e, _⟩ := hrel
  unfold guardTmp at hg
  unfold Region.wanted
  cases ho : o.guard with
  | none => rw [ho] at hg; cases hg
  | some jw =>
    obtain ⟨j, w⟩ := jw
    rw [ho] at hg
    simp only at hg
    cases hj : ops[j]? with
    | none => rw [hj] at hg; cases hg
    | some oj =>
      rw [hj] at hg
      simp only at hg
      cases hd : oj.dst with
      | none => rw [hd] at hg; cases hg
      | some d' =>
        rw [hd] at hg
        simp only [Option.some.injEq, Prod.mk.injEq] at hg
        obtain ⟨rfl, rfl⟩ := hg
        have : yielded ops a.tmps j = none := by
          unfold yielded
          simp only [hj, Option.bind_some, hd]
          cases ht : a.tmps[d']? with
          | none => rfl
          | some x =>
            have : x = .tuple vs := by
              rw [← e, Array.getD_eq_getD_getElem?, ht]; rfl
            rw [this]
        show (yielded ops a.tmps j == some w) = false
        rw [this]
        rfl

theorem guard_none {ops : Array Oper} {o : Oper} (hg : guardTmp ops o = some none) (y : Nat → Option Bool) : Region.wanted o y = true := by
  unfold guardTmp at hg
  unfold Region.wanted
  cases ho : o.guard with
  | none => rfl
  | some jw =>
    obtain ⟨j, w⟩ := jw
    rw [ho] at hg
    simp only at hg
    split at hg
    · split at hg <;> simp at hg
    · cases hg

theorem exOps_sound (hT : TabOk P T) (hP : SpecsOk P T) {ops : Array Oper} {E0 : Env} {Q : Exit → Act → World → Prop} : ∀ (l : List Oper) (k : Nat) {st : St} {K : St → Prop} {E : Env} {a : Act}, ops.toList.drop k = l → exOps T ops l st K → Sim st E a → Fr E0 E →
    (∀ st' E' a', Sim st' E' a' → Fr E0 E' → K st' → Q .normal a' E'.w) → wpOps P ops Q (List.range' k l.length) a E.w
  | [], k, st, K, E, a, _, h, hs, hf, hq => by
    simp only [List.length_nil, List.range'_zero, wpOps]
    exact hq st E a hs hf h
  | o :: l, k, st, K, E, a, hd, h, hs, hf, hq => by
    have hk : ops[k]? = some o := by
      rw [← Array.getElem?_toList]
      have := congrArg (·[0]?) hd
      simpa using this
    have hd' : ops.toList.drop (k + 1) = l := by
      have := congrArg (List.drop 1) hd
      simpa using this
    have run : ∀ (st1 : St), Sim st1 E a → (withName lits st1.heap st1.heap.length fun nm => doOp T o nm st1 fun st' => exOps T ops l st' K) → o.wp P a E.w (wpOps P ops Q (List.range' (k + 1) l.length)) Q := by
      intro st1 hs1 h1
      obtain ⟨nm, h2, h1⟩ := named h1
      exact doOp_sound hT hP h1 hs1 hf h2 fun st' E' a' g1 g2 g3 => exOps_sound hT hP l (k + 1) hd' g3 g1 g2 hq
    rw [List.length_cons, List.range'_succ]
    simp only [wpOps, hk]
    unfold exOps at h
    split at h
    · exact h.elim
    · rename_i hg
      rw [if_pos (guard_none hg _)]
      exact .inl (run st hs h)
    · rename_i d want hg
      split at h
      · rename_i b hb
        obtain ⟨h1, h2⟩ := guard_rel hs hg hb
        rw [h1]
        cases b with
        | true =>
          simp only [Br] at h
          have hs' : Sim (st.put (some d) (.cell (bv true))) E a := hs.same (by rw [h2]; exact ⟨rfl, rfl⟩)
          cases want with
          | true => simp only [fSt_eq] at h; exact .inl (run _ hs' h)
          | false => simp only [fSt_eq] at h; exact exOps_sound hT hP l (k + 1) hd' h (hs'.skip o.dst) hf hq
        | false =>
          simp only [Br] at h
          have hs' : Sim (st.put (some d) (.cell (bv false))) E a := hs.same (by rw [h2]; exact ⟨rfl, rfl⟩)
          cases want with
          | false => simp only [fSt_eq] at h; exact .inl (run _ hs' h)
          | true => simp only [fSt_eq] at h; exact exOps_sound hT hP l (k + 1) hd' h (hs'.skip o.dst) hf hq
      · rename_i hb
        rw [guard_tup hs hg hb]
        simp only [fSt_eq] at h
        exact exOps_sound hT hP l (k + 1) hd' h (hs.skip o.dst) hf hq
      · exact h.elim

end
end Go.Fw
