/- Part 4 of the proof: Fw19 Fw20 Fw21 Fw22 Fw23. No statement is handed in here; conditions: none. -/
import Derived.Test.YtblnigjmcjpopaaG3
import Derived.Laws.Cover3
import Derived.Tactics
import Derived.LoopN
/- Every operation, once. -/
namespace Go.Fw
set_option linter.unusedVariables false
set_option linter.unusedSimpArgs false

section
variable {P : Program} {T : Tab}

theorem ones_rel {E : Env} : ∀ {xs : List AV} {ys : List V1} {vs : List Value}, ones xs = some ys → VasR E xs vs → VsR E ys vs
  | [], ys, vs, h, hr => by
    simp only [ones, Option.some.injEq] at h
    subst h
    exact hr
  | .dead :: xs, ys, vs, h, _ => by simp [ones] at h
  | .tup _ :: xs, ys, vs, h, _ => by simp [ones] at h
  | .one x :: xs, ys, _, h, ⟨v, r, e, h1, h2⟩ => by
    subst e
    unfold ones at h
    cases h3 : ones xs with
    | none => rw [h3] at h; cases h
    | some ys' =>
      rw [h3] at h
      injection h with h
      subst h
      exact ⟨v, r, rfl, h1, ones_rel h3 h2⟩

theorem callSpec_sound {E : Env} (hH : HeapOk E) {look : Nat → Option Blk} (hl : ∀ b x, look b = some x → E.H b = some x) {f : FuncId} {s : CSpec} (hs : CSound P f s) {args : List V1} {vs : Array Value} {nm : Nat} {r : Res} (ha : VsR E args vs.toList) (h : callSpec look nm s args = some r) (hp : ∀ p, r.pre = some p → p)
    (hnm : ∀ k, k < r.add.length → ¬ E.U (nm + k)) : Calls P f vs E.w fun e w' => ∃ v E', e = .returned v ∧ E'.w = w' ∧ Step E r nm E' ∧ AVR E' r.val v := by
  unfold callSpec at h
  cases hw : s.wr with
  | false =>
    rw [hw] at h
    simp only at h
    cases hv : mapO (viewV look) args with
    | none => rw [hv] at h; cases h
    | some xs =>
      rw [hv] at h
      simp only at h
      split at h
      · rename_i p rv fresh hrun
        split at h
        · cases h
        · rename_i hc
          simp only [Option.some.injEq] at h
          subst h
          have hrel := viewVs_rel (us := args.flatMap (·.names)) hH hl (fun n hn => hn) hv ha
          refine (hs (viewE E (args.flatMap (·.names))) vs xs [] p rv [] fresh (fun b => rfl) (fun b => by simp [viewE]) (viewE_ok hH _) hrel hrun (fun q hq => hp q hq)).mono ?_
          rintro e w' ⟨v, E', rfl, rfl, hb⟩
          have hro : args.flatMap (·.names) = [] ∨ (rv.hasRo = false ∧ ∀ b ∈ fresh, b.plain = true) := by
            rw [Bool.and_eq_false_iff] at hc
            rcases hc with hc | hc
            · right
              simp at hc
              exact ⟨hc.1, fun b hb => hc.2 b hb⟩
            · exact .inl (viewVs_names hv hc)
          obtain ⟨E'', h1, h2, h3⟩ := call_read (p := p) hH (fun k hk => hnm k (by simpa using hk)) hb hro
          exact ⟨v, E'', rfl, h1, h2, h3⟩
      · cases h
  | true =>
    rw [hw] at h
    simp only at h
    cases hr : reach look 100 (args.flatMap (·.names)) [] with
    | none => rw [hr] at h; cases h
    | some acc =>
      rw [hr] at h
      simp only at h
      cases hm : mapO look acc with
      | none => rw [hm] at h; cases h
      | some bl =>
        rw [hm] at h
        simp only at h
        split at h
        · rename_i p rv upd fresh hrun
          split at h
          · rename_i hul
            simp only [Option.some.injEq] at h
            subst h
            have hul := Nat.eq_of_beq_eq_true hul
            obtain ⟨hn, hmem, _, hcl⟩ := reach_ok 100 _ [] acc (by simp) hr
            obtain ⟨hlen, hget⟩ := mapO_some hm
            have hbl : ∀ (i b : Nat), acc[i]? = some b → ∃ x, E.H b = some x ∧ (bl.map (·.rn (idx acc)))[i]? = some (x.rn (idx acc)) ∧ ∀ n ∈ x.names, n ∈ acc := by
              intro i b hb
              obtain ⟨x, h1, h2⟩ := hget i b hb
              refine ⟨x, hl _ _ h1, by simp [h2], fun n hnx => ?_⟩
              rcases hcl b (List.mem_of_getElem? hb) with h3 | ⟨y, h3, h4⟩
              · simp at h3
              · rw [h1] at h3
                injection h3 with h3
                subst h3
                exact h4 n hnx
            have hbl' : ∀ (i b : Nat), acc[i]? = some b → ∃ x, E.H b = some x ∧ (bl.map (·.rn (idx acc)))[i]? = some (x.rn (idx acc)) := fun i b h => let ⟨x, h1, h2, _⟩ := hbl i b h; ⟨x, h1, h2⟩
            have hlen' : (bl.map (·.rn (idx acc))).length = acc.length := by simpa using hlen
            have hrel : VsR (passE E acc (bl.map (·.rn (idx acc)))) (args.map (·.rn (idx acc))) vs.toList :=
              VsR.rn (E := E) (E' := passE E acc (bl.map (·.rn (idx acc)))) (f := idx acc) rfl (.inl fun _ h => h) (fun i hi => passE_rn hH hn hlen' hbl' (hmem i hi)) ha
            refine (hs (passE E acc (bl.map (·.rn (idx acc)))) vs _ _ p rv upd fresh (fun b => rfl) (fun b => Iff.rfl) (passE_ok hH hn hlen' hbl) hrel hrun (fun q hq => hp q hq)).mono ?_
            rintro e w' ⟨v, E', rfl, rfl, hb⟩
            obtain ⟨E'', h1, h2, h3⟩ := call_write (p := p) hH hn hlen' (by omega) hbl' (fun k hk => hnm k (by simpa using hk)) hb (fun i => match acc[i]? with | some b => b | none => nm + (i - acc.length)) (fun i => rfl)
            exact ⟨v, E'', rfl, h1, h2, h3⟩
          · cases h
        · cases h

theorem callFn_sound {E : Env} (hP : SpecsOk P T) (hH : HeapOk E) {look : Nat → Option Blk} (hl : ∀ b x, look b = some x → E.H b = some x) {f : FuncId} {args : List AV} {vs : Array Value} {nm : Nat} {r : Res} (ha : VasR E args vs.toList) (h : callFn T look nm f args = some r) (hp : ∀ p, r.pre = some p → p)
    (hnm : ∀ k, k < r.add.length → ¬ E.U (nm + k)) : Enters P f ∧ Calls P f vs E.w fun e w' => ∃ v E', e = .returned v ∧ E'.w = w' ∧ Step E r nm E' ∧ AVR E' r.val v := by
  unfold callFn at h
  cases hs : T.fn f with
  | none => rw [hs] at h; cases h
  | some s =>
    rw [hs] at h
    simp only at h
    cases ho : ones args with
    | none => rw [ho] at h; cases h
    | some xs =>
      rw [ho] at h
      exact ⟨(hP f s hs).2, callSpec_sound hH hl (hP f s hs).1 (ones_rel ho ha) h hp hnm⟩

theorem callFunc_run {f : FuncId} (h : Enters P f) (vs : Array Value) (w : World) : (callFunc f vs).run P w = .ok (.enter f vs) w := by
  obtain ⟨fn, h1, h2, h3⟩ := h
  have h2' : ¬ fn.name = "runtime.NumGoroutine" := by simpa using h2
  have h4 : ¬ fn.body = none := by
    intro e
    rw [e] at h3
    cases h3
  simp [callFunc, h1, h2', h4]

theorem VasR.append {E : Env} : ∀ {xs ys : List AV} {vs us : List Value}, VasR E xs vs → VasR E ys us → VasR E (xs ++ ys) (vs ++ us)
  | [], _, _, _, h, h' => by simp only [VasR] at h; subst h; exact h'
  | _ :: _, _, _, _, ⟨v, r, e, h1, h2⟩, h' => by subst e; exact ⟨v, r ++ _, rfl, h1, h2.append h'⟩

theorem evs_rel {E : Env} {ev : Operand → AV} {ρ : Operand → Value} (hev : ∀ x, AVR E (ev x) (ρ x)) : ∀ (l : List Operand), VasR E (l.map ev) (l.map ρ)
  | [] => rfl
  | x :: l => ⟨ρ x, l.map ρ, rfl, hev x, evs_rel hev l⟩

theorem ps_rel {E : Env} {ev : Operand → AV} {ρ : Operand → Value} (hev : ∀ x, AVR E (ev x) (ρ x)) : ∀ (l : List (Nat × Operand)), PsR E (l.map fun (i, x) => (i, ev x)) (l.map fun (i, x) => (i, ρ x))
  | [] => rfl
  | (i, x) :: l => ⟨ρ x, _, rfl, hev x, ps_rel hev l⟩

theorem caps_rel {E : Env} : ∀ (bs : List Nat) (caps : List Value), caps.length = bs.length → (∀ (i b : Nat), bs[i]? = some b → ∃ u, caps[i]? = some u ∧ u.oneCell' = true ∧ E.U b ∧ ∀ cs, E.H b = some (.var cs) → ∃ g, E.ρ b = some g ∧ u = pt g 0) → VasR E (bs.map fun b => .cell (.ptr b 0)) caps
  | [], caps, h, _ => List.eq_nil_of_length_eq_zero h
  | b :: bs, [], h, _ => by simp at h
  | b :: bs, u :: caps, h, hh => by
    obtain ⟨u', h1, h2, h3, h4⟩ := hh 0 b rfl
    simp at h1
    subst h1
    exact ⟨u, caps, rfl, ⟨u, ⟨rfl, h2⟩, h3, h4⟩, caps_rel bs caps (by simpa using h) fun i b hb => hh (i + 1) b (by simpa using hb)⟩

theorem opt_rel {E : Env} {ev : Operand → AV} {ρ : Operand → Value} (hev : ∀ x, AVR E (ev x) (ρ x)) (o : Option Operand) : OptR E (o.map ev) (o.map ρ) := by
  cases o with
  | none => trivial
  | some x => exact hev x

theorem pick_run {E : Env} {c a b : AV} {vc va vb : Value} {r : Res} (hc : AVR E c vc) (ha : AVR E a va) (hb : AVR E b vb) (h : pickA c a b = some r) (w : World) :
    ∃ v, (do pure (.value (if ← asBool vc then va else vb)) : Sem Next).run P w = .ok (.value v) w ∧ AVR E r.val v ∧ r.add = [] ∧ r.set = [] := by
  unfold pickA at h
  split at h
  · rename_i t
    obtain ⟨e, _⟩ := hc
    injection e with e
    subst e
    split at h
    · simp only [ok1, Option.some.injEq] at h
      subst h
      obtain ⟨e, _⟩ := ha
      injection e with e
      subst e
      obtain ⟨e, _⟩ := hb
      injection e with e
      subst e
      refine ⟨_, by simp [asBool]; rfl, ?_, rfl, rfl⟩
      cases t <;> exact ⟨rfl, rfl⟩
    · cases t with
      | true =>
        simp only at h
        split at h
        · cases h
        · simp only [ok1, Option.some.injEq] at h
          subst h
          exact ⟨va, by simp [asBool], ha, rfl, rfl⟩
      | false =>
        simp only at h
        split at h
        · cases h
        · simp only [ok1, Option.some.injEq] at h
          subst h
          exact ⟨vb, by simp [asBool], hb, rfl, rfl⟩
  · cases h

theorem und_some (hT : TabOk P T) {t : TypeId} {ti : TI} (h : T.ty t = some ti) : ∃ d, P.underlying t = some d := by
  have := (hT.ty t ti h).und
  cases hd : ti.desc <;> rw [hd] at this <;> simp only [DescOk] at this
  case struct => obtain ⟨F, h1, _⟩ := this; exact ⟨_, h1⟩
  case iface => obtain ⟨F, h1⟩ := this; exact ⟨_, h1⟩
  case other => obtain ⟨d, h1, _⟩ := this; exact ⟨d, h1⟩
  all_goals exact ⟨_, this⟩

theorem asPtr0_eq {x : AV} {b : Nat} (h : asPtr0 x = some b) : x = .cell (.ptr b 0) := by
  unfold asPtr0 at h
  split at h
  · injection h with h
    subst h
    rfl
  · cases h

theorem VsR.get {E : Env} : ∀ {xs : List V1} {vs : List Value} {i : Nat} {x : V1}, VsR E xs vs → xs[i]? = some x → ∃ v, vs[i]? = some v ∧ V1R E x v
  | [], _, i, x, _, h => by simp at h
  | y :: ys, _, 0, x, ⟨v, r, e, h1, h2⟩, h => by subst e; simp at h; subst h; exact ⟨v, rfl, h1⟩
  | y :: ys, _, i + 1, x, ⟨v, r, e, h1, h2⟩, h => by subst e; simpa using h2.get (by simpa using h)

theorem len_run {E : Env} {look : Nat → Option Blk} (hT : TabOk P T) (hH : HeapOk E) (hl : ∀ b x, look b = some x → E.H b = some x) {t ty : TypeId} {tys : Array TypeId} {x : AV} {v : Value} {n : Int} (hx : AVR E x v) (h : lenA T look t x = some n) (ht : tys[0]? = some t) :
    (Builtin.len_ tys ty #[v]).run P E.w = .ok (.int .i64 n) E.w := by
  unfold lenA at h
  split at h
  · rename_i hty
    have hu := (hT.ty t _ hty).und
    simp only [DescOk] at hu
    split at h
    · injection h with h
      subst h
      obtain ⟨e, _⟩ := hx
      injection e with e
      subst e
      simp [Builtin.len_, ht, run_underlying hu, goInt]
    · cases h
  · rename_i hty
    have hu := (hT.ty t _ hty).und
    simp only [DescOk] at hu
    split at h
    · injection h with h
      subst h
      obtain ⟨e, _⟩ := hx
      injection e with e
      subst e
      simp [Builtin.len_, ht, run_underlying hu, goInt]
    · split at h
      · rename_i hb
        injection h with h
        subst h
        obtain ⟨v', ⟨e, _⟩, hU, hh⟩ := hx
        injection e with e
        subst e
        obtain ⟨g, cap, _, rfl, _⟩ := hh _ (hl _ _ hb)
        simp [Builtin.len_, ht, run_underlying hu, goInt]
      · cases h
    · split at h
      · rename_i hs
        injection h with h
        subst h
        obtain ⟨a, cap, rfl, _⟩ := sliceOf_rel hH hl hs hx
        simp [Builtin.len_, ht, run_underlying hu, goInt]
      · cases h
    · cases h
  · cases h

theorem maxA_run {E : Env} {xs : List AV} {vs : List Value} {r : AV} (hv : VasR E xs vs) (h : maxA xs = some r) (w : World) {tys : Array TypeId} {ty : TypeId} : ∃ v, (Builtin.max_ tys ty vs.toArray).run P w = .ok v w ∧ AVR E r v := by
  unfold maxA at h
  split at h
  · obtain ⟨v, vs', rfl, hx, hv⟩ := hv
    obtain ⟨e, _⟩ := hx
    injection e with e
    subst e
    obtain ⟨v', h1, h2⟩ := maxI_run (P := P) hv h w
    exact ⟨v', by simpa [Builtin.max_] using h1, h2⟩
  · cases h

theorem minA_run {E : Env} {xs : List AV} {vs : List Value} {r : AV} (hv : VasR E xs vs) (h : minA xs = some r) (w : World) {tys : Array TypeId} {ty : TypeId} : ∃ v, (Builtin.min_ tys ty vs.toArray).run P w = .ok v w ∧ AVR E r v := by
  unfold minA at h
  split at h
  · obtain ⟨v, vs', rfl, hx, hv⟩ := hv
    obtain ⟨e, _⟩ := hx
    injection e with e
    subst e
    obtain ⟨v', h1, h2⟩ := minI_run (P := P) hv h w
    exact ⟨v', by simpa [Builtin.min_] using h1, h2⟩
  · cases h

theorem dstep_sound (hT : TabOk P T) (hP : SpecsOk P T) {E : Env} (hH : HeapOk E) {a : Act} {ev : Operand → AV} (hev : ∀ x, AVR E (ev x) (a.eval x)) {look : Nat → Option Blk} (hl : ∀ b x, look b = some x → E.H b = some x) {nm : Nat} {o : Oper} {r : Res}
    (h : dstep T ev look nm o = some r) (hp : ∀ p, r.pre = some p → p) (hnm : ∀ k, k < r.add.length → ¬ E.U (nm + k)) {next : Act → World → Prop} {Q : Exit → Act → World → Prop}
    (hn : ∀ E' v, Step E r nm E' → AVR E' r.val v → next (a.put o.dst v) E'.w) : o.wp P a E.w next Q := by
  obtain ⟨dst, op, type, pos, after, guard⟩ := o
  -- a value, and nothing else
  have val : ∀ v, (execOp a.eval ⟨dst, op, type, pos, after, guard⟩).run P E.w = .ok (.value v) E.w → AVR E r.val v → r.add = [] → r.set = [] → Oper.wp P ⟨dst, op, type, pos, after, guard⟩ a E.w next Q := fun v hr hv h1 h2 => op_value hr (hn E v (Step.same hH h1 h2) hv)
  have vl : ∀ (s : Sem Value) v w', s.run P E.w = .ok v w' → (do pure (.value (← s)) : Sem Next).run P E.w = .ok (.value v) w' := fun s v w' hs => by simp [hs]
  cases op <;> simp only [dstep] at h
  case move x =>
    have hx := hev x
    split at h
    · cases h
    · rename_i y hy
      simp only [ok1, Option.some.injEq] at h
      subst h
      exact val _ rfl hx rfl rfl
  case assign x =>
    have hx := hev x
    split at h
    · cases h
    · rename_i y hy
      simp only [ok1, Option.some.injEq] at h
      subst h
      exact val _ rfl hx rfl rfl
  case pick c x y =>
    obtain ⟨v, h1, h2, h3, h4⟩ := pick_run (P := P) (hev c) (hev x) (hev y) h E.w
    exact val v (by simpa [execOp] using h1) h2 h3 h4
  case alloc t =>
    cases ht : T.ty t with
    | none => rw [ht] at h; cases h
    | some ti =>
      rw [ht] at h
      simp only [Option.some.injEq] at h
      subst h
      obtain ⟨E', h1, h2, h3⟩ := alloc_run hT hH ht (nm := nm) (by simpa using hnm 0 (by simp))
      exact op_value (vl _ _ _ h1) (hn E' _ h2 h3)
  case box t x =>
    have hx := hev x
    split at h
    · rename_i y hy
      simp only [Option.some.injEq] at h
      subst h
      rw [hy] at hx
      obtain ⟨E', h1, h2, h3⟩ := box_run (P := P) hH t (x := y) hx (nm := nm) (by simpa using hnm 0 (by simp))
      exact op_value (vl _ _ _ h1) (hn E' _ h2 h3)
    · cases h
  case build t ps =>
    obtain ⟨v, h1, h2, h3, h4, _⟩ := build_run (E := E) (vs := ps.map fun (i, x) => (i, a.eval x)) hT (by simpa using ps_rel hev ps.toList) h
    exact val v (vl _ _ _ h1) h2 h3 h4
  case buildSlice t n ps =>
    have hnew : r.add.length = 1 := by
      unfold buildSliceA at h
      split at h
      · split at h
        · split at h
          · simp only [Option.some.injEq] at h; subst h; rfl
          · split at h
            · simp only [Option.some.injEq] at h; subst h; rfl
            · cases h
        · cases h
      · cases h
    obtain ⟨v, E', h1, h2, h3⟩ := buildSlice_run (vs := ps.map fun (i, x) => (i, a.eval x)) hT hH hl (by simpa using hnm 0 (by omega)) (by simpa using ps_rel hev ps.toList) h
    exact op_value (vl _ _ _ h1) (hn E' _ h2 h3)
  case load t x =>
    obtain ⟨v, h1, h2, h3, h4⟩ := load_run hT hH hl (hev x) h hp
    exact val v (vl _ _ _ h1) h2 h3 h4
  case store t x y =>
    obtain ⟨E', h1, h2, h3⟩ := store_run (nm := nm) hT hH hl (hev x) (hev y) h hp
    exact op_skip (by simp [execOp, h1]) (hn E' _ h2 (by rw [h3]; trivial))
  case nilCheck x =>
    have hx := hev x
    split at h
    · rename_i b j hy
      split at h
      · rename_i cs hb
        simp only [ok1, Option.some.injEq] at h
        subst h
        rw [hy] at hx
        have hbx := hl _ _ hb
        have hx0 := hx
        obtain ⟨v, ⟨e, _⟩, hU, hh⟩ := hx
        injection e with e
        obtain ⟨g, hr, hv⟩ := hh _ hbx
        refine val (a.eval x) ?_ hx0 rfl rfl
        rw [e, hv]
        simp only [execOp, e, hv, pt]
        rfl
      · cases h
    · rename_i f cs hy
      simp only [ok1, Option.some.injEq] at h
      subst h
      rw [hy] at hx
      have hx0 := hx
      obtain ⟨caps, e, _⟩ := hx
      injection e with e
      refine val (a.eval x) ?_ hx0 rfl rfl
      rw [e]
      simp only [execOp, e]
      rfl
    · cases h
  case binOp op t x y ty =>
    obtain ⟨v, h1, h2, h3, h4⟩ := bin_run (P := P) hT hH (hev x) (hev y) h hp x y E.w
    exact val v (vl _ _ _ h1) h2 h3 h4
  case unOp op t x =>
    obtain ⟨v, h1, h2, h3, h4, _⟩ := un_run (P := P) (hev x) h E.w
    exact val v (vl _ _ _ h1) h2 h3 h4
  case convert s d x =>
    have hx := hev x
    split at h
    · rename_i ts k n hs hd hy
      simp only [ok1, Option.some.injEq] at h
      subst h
      rw [hy] at hx
      obtain ⟨e, _⟩ := hx
      injection e with e
      have hd' := (hT.ty d _ hd).und
      simp only [DescOk] at hd'
      obtain ⟨ds, hds⟩ := und_some hT hs
      exact val _ (vl _ _ _ (by rw [e]; simp [convert, run_underlying hds, run_underlying hd', Conv.intToInt])) ⟨rfl, rfl⟩ rfl rfl
    · rename_i ts t hs hd hy
      simp only [ok1, Option.some.injEq] at h
      subst h
      rw [hy] at hx
      obtain ⟨e, _⟩ := hx
      injection e with e
      have hd' := (hT.ty d _ hd).und
      simp only [DescOk] at hd'
      obtain ⟨ds, hds⟩ := und_some hT hs
      exact val (.string t) (vl _ _ _ (by rw [e]; simp [convert, run_underlying hds, run_underlying hd'])) ⟨rfl, rfl⟩ rfl rfl
    · rename_i c hni hs hd hy
      split at h
      · rename_i he
        split at h
        · rename_i l hsl
          simp only [ok1, Option.some.injEq] at h
          subst h
          rw [hy] at hx
          have hd' := (hT.ty d _ hd).und
          simp only [DescOk] at hd'
          have hs' := (hT.ty s _ hs).und
          simp only [DescOk] at hs'
          have he' := (hT.ty _ _ he).und
          simp only [DescOk] at he'
          have hsl := slAs_rel hH hl hsl hx
          refine val _ (vl _ _ _ ?_) ⟨rfl, rfl⟩ rfl rfl
          have hb := bytes_run (P := P) (w := E.w) hsl
          obtain ⟨ad, cap, e, _⟩ := hsl
          rw [e] at hb ⊢
          rw [run_convert_bytes_string E.w s d _ _ _ _ hs' he' hd', hb]
        · cases h
      · cases h
    · rename_i t hs hd hy
      split at h
      · rename_i he
        simp only [ok1, Option.some.injEq] at h
        subst h
        rw [hy] at hx
        obtain ⟨e, _⟩ := hx
        injection e with e
        have hd' := (hT.ty d _ hd).und
        simp only [DescOk] at hd'
        have hs' := (hT.ty s _ hs).und
        simp only [DescOk] at hs'
        have he' := (hT.ty _ _ he).und
        simp only [DescOk] at he'
        obtain ⟨v, E', h1, h2, h3⟩ := strBytes_run (P := P) (nm := nm) hH t hs' hd' he'
        exact op_value (vl _ _ _ (by rw [e]; exact h1)) (hn E' _ h2 h3)
      · cases h
    · cases h
  case makeMap t rv =>
    cases rv with
    | some _ => cases h
    | none =>
      simp only at h
      split at h
      · rename_i ka kt vt hi
        simp only [Option.some.injEq] at h
        subst h
        obtain ⟨E', h1, h2, h3⟩ := makeMap_run (P := P) hH (t := t) (ka := ka) (kt := kt) (vt := vt) (nm := nm) (by simpa using hnm 0 (by simp))
        exact op_value (vl _ _ _ h1) (hn E' _ h2 h3)
      · cases h
  case mapUpdate t m k x =>
    obtain ⟨E', h1, h2, h3⟩ := mapPut_run (nm := nm) hT hH hl (hev m) (hev k) (hev x) h
    exact op_skip (by simp [execOp, h1]) (hn E' _ h2 (by rw [h3]; trivial))
  case insert t m k x =>
    obtain ⟨E', h1, h2, h3⟩ := mapPut_run (nm := nm) hT hH hl (hev m) (hev k) (hev x) h
    exact op_skip (by simp [execOp, h1]) (hn E' _ h2 (by rw [h3]; trivial))
  case lookup t m k ok =>
    obtain ⟨v, h1, h2, h3, h4⟩ := lookup_run hT hH hl (hev m) (hev k) h
    exact val v (vl _ _ _ h1) h2 h3 h4
  case makeInterface t x =>
    have hx := hev x
    split at h
    · rename_i et ht
      cases hb : asPtr0 (ev x) with
      | none => rw [hb] at h; cases h
      | some b =>
        rw [hb] at h
        simp only [ok1, Option.some.injEq] at h
        subst h
        rw [asPtr0_eq hb] at hx
        obtain ⟨v, ⟨e, h1⟩, hU, hh⟩ := hx
        injection e with e
        have hu := (hT.ty t _ ht).und
        simp only [DescOk] at hu
        refine val (.iface t (a.eval x)) (vl _ _ _ (by simp [Instr.makeInterface, run_underlying hu])) ⟨v, ⟨by rw [e], h1⟩, hU, hh⟩ rfl rfl
    · cases h
  case makeFunc f fs cs =>
    cases f with
    | func f =>
      simp only at h
      split at h
      · rename_i hz
        have hz := Nat.eq_of_beq_eq_true hz
        have hfs : fs = #[] := Array.eq_empty_of_size_eq_zero hz
        subst hfs
        cases hm : mapO (fun x => asPtr0 (ev x)) cs.toList with
        | none => rw [hm] at h; cases h
        | some bs =>
          rw [hm] at h
          simp only [ok1, Option.some.injEq] at h
          subst h
          obtain ⟨hlen, hget⟩ := mapO_some hm
          refine val (.func (.func f) #[] (cs.map a.eval)) (by simp [execOp, Instr.makeFunc]) ⟨cs.map a.eval, rfl, by simpa using hlen.symm, fun i b hb => ?_⟩ rfl rfl
          have hi : i < cs.toList.length := by rw [← hlen]; exact (List.getElem?_eq_some_iff.1 hb).1
          obtain ⟨y, h1, h2⟩ := hget i cs.toList[i] (List.getElem?_eq_getElem hi)
          rw [hb] at h2
          injection h2 with h2
          subst h2
          have hx := hev cs.toList[i]
          rw [asPtr0_eq h1] at hx
          obtain ⟨v, ⟨e, h3⟩, hU, hh⟩ := hx
          injection e with e
          refine ⟨v, ?_, h3, hU, hh⟩
          have hi' : i < cs.size := by simpa using hi
          simp at e
          simp [hi', e]
      · cases h
    | _ => cases h
  case makeSlice t l c =>
    have hnew : r.add.length = 1 := by
      unfold makeSliceA at h
      split at h
      · simp only [Option.some.injEq] at h; subst h; rfl
      · cases h
    obtain ⟨v, E', h1, h2, h3⟩ := makeSlice_run hT hH (by simpa using hnm 0 (by omega)) (hev l) (hev c) h hp
    exact op_value (vl _ _ _ h1) (hn E' _ h2 h3)
  case slice t x lo hi mx =>
    obtain ⟨v, h1, h2, h3, h4⟩ := slice_run hT hH hl (hev x) (opt_rel hev lo) (opt_rel hev hi) (opt_rel hev mx) h hp
    exact val v (vl _ _ _ h1) h2 h3 h4
  case fieldAddr s x f =>
    obtain ⟨v, h1, h2, h3, h4⟩ := fieldAddr_run hT hl (hev x) h hp
    exact val v (vl _ _ _ h1) h2 h3 h4
  case field t x f =>
    obtain ⟨v, h1, h2, h3, h4, _⟩ := field_run (P := P) hT (hev x) h
    exact val v (vl _ _ _ h1) h2 h3 h4
  case indexAddr t x i =>
    obtain ⟨v, h1, h2, h3, h4⟩ := indexAddr_run hT hH hl (hev x) (hev i) h hp
    exact val v (vl _ _ _ h1) h2 h3 h4
  case index t x i =>
    obtain ⟨v, h1, h2, h3, h4⟩ := index_run (P := P) hT (hev x) (hev i) h hp
    exact val v (vl _ _ _ h1) h2 h3 h4
  case extract t i =>
    have hx := hev t
    split at h
    · rename_i l hy
      cases hi : l[i]? with
      | none => rw [hi] at h; cases h
      | some y =>
        rw [hi] at h
        simp only [ok1, Option.some.injEq] at h
        subst h
        rw [hy] at hx
        obtain ⟨vs, e, hvs⟩ := hx
        obtain ⟨v, h1, h2⟩ := VsR.get hvs hi
        refine val v (vl _ _ _ (by rw [e]; simp [Instr.extract]; rw [← Array.getElem?_toList, h1]; rfl)) h2 rfl rfl
    · cases h
  case call c =>
    obtain ⟨callee, args, argTypes⟩ := c
    cases callee with
    | builtin b =>
      simp only at h
      have hargs := evs_rel (E := E) hev args.toList
      unfold builtinA at h
      split at h
      · -- len
        rename_i x t tl hal htl
        cases hn' : lenA T look t x with
        | none => rw [hn'] at h; cases h
        | some n =>
          rw [hn'] at h
          simp only [ok1, Option.some.injEq] at h
          subst h
          rw [hal] at hargs
          obtain ⟨v, r', e, hx, hr'⟩ := hargs
          simp only [VasR] at hr'
          subst hr'
          refine val (.int .i64 n) ?_ ⟨rfl, rfl⟩ rfl rfl
          have hav : args.map a.eval = #[v] := by apply Array.ext'; simpa using e
          have ht0 : argTypes[0]? = some t := by rw [← Array.getElem?_toList, htl]; rfl
          have hlen := len_run (P := P) hT hH hl hx hn' (ty := type) ht0
          simp [execOp, resolve, hav, invoke, builtin, hlen]
      · rename_i hal htl
        cases hm : maxA (args.toList.map ev) with
        | none => rw [hm] at h; cases h
        | some v =>
          rw [hm] at h
          simp only [ok1, Option.some.injEq] at h
          subst h
          obtain ⟨v', h1, h2⟩ := maxA_run (P := P) hargs hm E.w (tys := argTypes) (ty := type)
          refine val v' ?_ h2 rfl rfl
          have hav : args.map a.eval = (args.toList.map a.eval).toArray := by apply Array.ext'; simp
          simp only [execOp, resolve, hav]
          simp [invoke, builtin, h1]
      · rename_i hal htl
        cases hm : minA (args.toList.map ev) with
        | none => rw [hm] at h; cases h
        | some v =>
          rw [hm] at h
          simp only [ok1, Option.some.injEq] at h
          subst h
          obtain ⟨v', h1, h2⟩ := minA_run (P := P) hargs hm E.w (tys := argTypes) (ty := type)
          refine val v' ?_ h2 rfl rfl
          have hav : args.map a.eval = (args.toList.map a.eval).toArray := by apply Array.ext'; simp
          simp only [execOp, resolve, hav]
          simp [invoke, builtin, h1]
      · -- append
        rename_i s x t t' hal htl
        rw [hal] at hargs
        obtain ⟨vs, r', e, hs, vx, r'', e', hx, hr''⟩ := hargs
        simp only [VasR] at hr''
        subst hr'' e'
        have hav : args.map a.eval = #[vs, vx] := by apply Array.ext'; simpa using e
        have hat : argTypes = #[t, t'] := by apply Array.ext'; simpa using htl
        have hnew : r.add.length = 1 := by
          unfold appendA at h
          split at h
          · split at h
            · cases h
            · split at h
              · split at h
                · simp only [Option.some.injEq] at h; subst h; rfl
                · split at h
                  · split at h
                    · simp only [Option.some.injEq] at h; subst h; rfl
                    · cases h
                  · cases h
                · cases h
              · cases h
          · cases h
        obtain ⟨v, E', h1, h2, h3⟩ := append_run (ty := type) hT hH hl (by simpa using hnm 0 (by omega)) hs hx h hp
        refine op_value ?_ (hn E' _ h2 h3)
        simp [execOp, resolve, hav, hat, invoke, builtin, h1]
      · -- copy
        rename_i s x t tl hal htl
        rw [hal] at hargs
        obtain ⟨vs, r', e, hs, vx, r'', e', hx, hr''⟩ := hargs
        simp only [VasR] at hr''
        subst hr'' e'
        have hav : args.map a.eval = #[vs, vx] := by apply Array.ext'; simpa using e
        have ht0 : argTypes[0]? = some t := by rw [← Array.getElem?_toList, htl]; rfl
        obtain ⟨v, E', h1, h2, h3⟩ := copy_run (ty := type) (nm := nm) hT hH hl hs hx ht0 h hp
        refine op_value ?_ (hn E' _ h2 h3)
        simp [execOp, resolve, hav, invoke, builtin, h1]
      · cases h
    | value f =>
      simp only at h
      have hf := hev f
      split at h
      · rename_i g caps hy
        rw [hy] at hf
        obtain ⟨cv, e, hcl, hcap⟩ := hf
        injection e with e
        have hargs : VasR E (args.toList.map ev ++ caps.map fun b => .cell (.ptr b 0)) (args.map a.eval ++ cv).toList := by
          simpa using (evs_rel (E := E) hev args.toList).append (caps_rel caps cv.toList (by simpa using hcl) (fun i b hb => by simpa using hcap i b hb))
        obtain ⟨hent, hcall⟩ := callFn_sound hP hH hl hargs h hp hnm
        unfold Oper.wp
        have hrun : (execOp a.eval ⟨dst, .call ⟨.value f, args, argTypes⟩, type, pos, after, guard⟩).run P E.w = .ok (.enter g (args.map a.eval ++ cv)) E.w := by
          simp [execOp, resolve, e, Deferred.ofValue, invoke, callFunc_run hent]
        rw [hrun]
        refine hcall.mono ?_
        rintro e' w' ⟨v, E', rfl, rfl, h2, h3⟩
        exact hn E' v h2 h3
      · cases h
    | invoke rv name =>
      simp only at h
      have hf := hev rv
      split at h
      · rename_i t b hy
        rw [hy] at hf
        obtain ⟨v, ⟨e, h1⟩, hU, hh⟩ := hf
        injection e with e
        cases hm : T.meth t name with
        | none => rw [hm] at h; cases h
        | some g =>
          rw [hm] at h
          simp only at h
          have hmeth := hT.meth t name g hm v E.w
          have hargs : VasR E (.cell (.ptr b 0) :: args.toList.map ev) (#[v] ++ args.map a.eval).toList := by
            refine ⟨v, args.toList.map a.eval, by simp, ⟨v, ⟨rfl, h1⟩, hU, hh⟩, evs_rel hev args.toList⟩
          obtain ⟨hent, hcall⟩ := callFn_sound hP hH hl hargs h hp hnm
          unfold Oper.wp
          have hrun : (execOp a.eval ⟨dst, .call ⟨.invoke rv name, args, argTypes⟩, type, pos, after, guard⟩).run P E.w = .ok (.enter g (#[v] ++ args.map a.eval)) E.w := by
            have h0 : (#[Value.iface t v] ++ args.map a.eval)[0]? = some (.iface t v) := by rw [← Array.getElem?_toList]; simp
            have h2 : (#[Value.iface t v] ++ args.map a.eval).extract 1 (#[Value.iface t v] ++ args.map a.eval).size = args.map a.eval := by apply Array.ext'; simp; exact List.take_of_length_le (by simp)
            simp only [execOp, resolve, e, Sem.run_bind, Sem.run_pure, Result.andThen_ok, invoke, h0, h2, callMethod]
            simp [hmeth, callFunc_run hent]
          rw [hrun]
          refine hcall.mono ?_
          rintro e' w' ⟨v', E', rfl, rfl, h2, h3⟩
          exact hn E' v' h2 h3
      · cases h
  all_goals cases h

end
end Go.Fw

/- Regions in the order of the text, code, loops, functions. -/
namespace Go.Fw
set_option linter.unusedVariables false
set_option linter.unusedSimpArgs false

structure Sim (st : St) (E : Env) (a : Act) : Prop where
  defers : a.defers = []
  len : a.tmps.size = st.tmps.length
  tmp : ∀ (i : Nat) x, st.tmps[i]? = some x → ∃ v, a.tmps[i]? = some v ∧ AVR E x v
  ok : HeapOk E
  H : ∀ b, E.H b = st.look b
  U : ∀ b, E.U b → b < st.heap.length

/-- what has become of the world since the call began -/
structure Fr (E0 E : Env) : Prop where
  fr : FrameOk (frameOf E0) E
  ext : Ext E0 E

section
variable {P : Program} {T : Tab}

theorem constV_rel (E : Env) (v : Value) : AVR E (constV v) v := by
  unfold constV
  split
  · rename_i cs
    split
    · rename_i h
      refine ⟨cs, rfl, ?_⟩
      have h : ∀ u ∈ cs.toList, u.oneCell' = true := fun u hu => List.all_eq_true.1 h u hu
      generalize cs.toList = l at h
      induction l with
      | nil => exact rfl
      | cons u l ih => exact ⟨[u], l, rfl, ⟨rfl, h u (by simp)⟩, ih fun x hx => h x (by simp [hx])⟩
    · trivial
  · trivial
  · rename_i h1 h2
    refine ⟨rfl, ?_⟩
    cases v <;> first | rfl | exact absurd rfl (h1 _) | exact absurd rfl (h2 _)

theorem Sim.at_ {st : St} {E : Env} {a : Act} (h : Sim st E a) (t : Tmp) : AVR E (st.tmp t) (a.tmps.getD t undef) := by
  unfold St.tmp
  cases hx : st.tmps[t]? with
  | none => simp [List.getD, hx]; trivial
  | some x =>
    obtain ⟨v, h1, h2⟩ := h.tmp t x hx
    simp [List.getD, hx, h1]
    exact h2

theorem Sim.eval {st : St} {E : Env} {a : Act} (h : Sim st E a) (x : Operand) : AVR E (st.eval x) (a.eval x) := by
  cases x with
  | tmp t => exact h.at_ t
  | const v => exact constV_rel E v
  | func f => exact ⟨#[], rfl, rfl, fun i b hb => by simp at hb⟩
  | global g => trivial

theorem look_setAt : ∀ (h : List (Option Blk)) (n : Nat) (o : Option Blk) (b : Nat), (match (setAt h n o)[b]? with | some x => x | none => none) = if b = n then o else (match h[b]? with | some x => x | none => none)
  | [], 0, o, b => by
    cases b with
    | zero => simp [setAt]
    | succ b => simp [setAt]
  | [], n + 1, o, b => by
    cases b with
    | zero => simp [setAt]
    | succ b => simpa [setAt] using look_setAt [] n o b
  | x :: r, 0, o, b => by
    cases b with
    | zero => simp [setAt]
    | succ b => simp [setAt]
  | x :: r, n + 1, o, b => by
    cases b with
    | zero => simp [setAt]
    | succ b => simpa [setAt] using look_setAt r n o b

theorem len_setAt : ∀ (h : List (Option Blk)) (n : Nat) (o : Option Blk), (setAt h n o).length = max h.length (n + 1)
  | [], 0, o => by simp [setAt]
  | [], n + 1, o => by simp [setAt, len_setAt [] n o]
  | x :: r, 0, o => by simp [setAt]
  | x :: r, n + 1, o => by simp [setAt, len_setAt r n o]

theorem look_setAll : ∀ (l : List (Nat × Option Blk)) (h : List (Option Blk)) (b : Nat), (match (setAll h l)[b]? with | some x => x | none => none) = setF (fun b => match h[b]? with | some x => x | none => none) l b
  | [], h, b => rfl
  | (n, o) :: l, h, b => by
    rw [setAll, look_setAll l, setF]
    congr 1
    funext c
    exact look_setAt h n o c

theorem len_setAll : ∀ (l : List (Nat × Option Blk)) (h : List (Option Blk)), h.length ≤ (setAll h l).length
  | [], h => Nat.le_refl _
  | (n, o) :: l, h => by
    rw [setAll]
    have := len_setAll l (setAt h n o)
    rw [len_setAt] at this
    omega

theorem look_addAll : ∀ (l : List Blk) (h : List (Option Blk)) (nm b : Nat), (match (addAll h nm l)[b]? with | some x => x | none => none) = addF (fun b => match h[b]? with | some x => x | none => none) nm l b
  | [], h, nm, b => rfl
  | x :: l, h, nm, b => by
    rw [addAll, look_addAll l, addF]
    congr 1
    funext c
    exact look_setAt h nm (some x) c

theorem len_addAll : ∀ (l : List Blk) (h : List (Option Blk)) (nm : Nat), h.length ≤ (addAll h nm l).length ∧ (0 < l.length → nm + l.length ≤ (addAll h nm l).length)
  | [], h, nm => ⟨Nat.le_refl _, fun h => by simp at h⟩
  | x :: l, h, nm => by
    rw [addAll]
    obtain ⟨h1, h2⟩ := len_addAll l (setAt h nm (some x)) (nm + 1)
    rw [len_setAt] at h1
    refine ⟨by omega, fun _ => ?_⟩
    simp only [List.length_cons]
    by_cases hl : 0 < l.length
    · have := h2 hl; omega
    · have : l.length = 0 := by omega
      omega

theorem look_act (st : St) (nm : Nat) (r : Res) (b : Nat) : (st.act nm r).look b = addF (setF st.look r.set) nm r.add b := by
  show (match (addAll (setAll st.heap r.set) nm r.add)[b]? with | some x => x | none => none) = _
  refine (look_addAll _ _ _ _).trans ?_
  congr 1
  funext c
  exact look_setAll r.set st.heap c

theorem Sim.step {st : St} {E E' : Env} {a : Act} {nm : Nat} {r : Res} {v : Value} {dst : Option Tmp} (h : Sim st E a) (hs : Step E r nm E') (hv : AVR E' r.val v) : Sim ((st.act nm r).put dst r.val) E' (a.put dst v) := by
  have hlook : ∀ b, ((st.act nm r).put dst r.val).look b = (st.act nm r).look b := fun b => by cases dst <;> rfl
  have hheap : ((st.act nm r).put dst r.val).heap = (st.act nm r).heap := by cases dst <;> rfl
  refine ⟨by cases dst <;> exact h.defers, ?_, fun i x hx => ?_, hs.ok, fun b => ?_, fun b hb => ?_⟩
  · cases dst with
    | none => exact h.len
    | some d => simp [Act.put, St.put, St.act, h.len]
  · cases dst with
    | none =>
      obtain ⟨u, h1, h2⟩ := h.tmp i x hx
      exact ⟨u, h1, h2.ext hs.ext⟩
    | some d =>
      simp only [St.put, St.act, List.getElem?_set] at hx
      by_cases hd : d = i
      · subst hd
        simp only [if_true] at hx
        split at hx
        · rename_i hlt
          injection hx with hx
          subst hx
          exact ⟨v, by simp [Act.put, h.len, hlt], hv⟩
        · cases hx
      · rw [if_neg hd] at hx
        obtain ⟨u, h1, h2⟩ := h.tmp i x hx
        exact ⟨u, by simp [Act.put, Array.getElem?_setIfInBounds_ne hd, h1], h2.ext hs.ext⟩
  · rw [hlook, hs.H, look_act]
    congr 1
    funext c
    congr 1
    funext d
    exact h.H d
  · rw [hheap]
    have h1 := len_setAll r.set st.heap
    obtain ⟨h2, h3⟩ := len_addAll r.add (setAll st.heap r.set) nm
    have h4 : (st.act nm r).heap = addAll (setAll st.heap r.set) nm r.add := rfl
    rw [h4]
    rcases (hs.U b).1 hb with h5 | ⟨h5, h6⟩
    · have := h.U b h5
      omega
    · have := h3 (by omega)
      omega

theorem Fr.step {E0 E E' : Env} {nm : Nat} {r : Res} (h : Fr E0 E) (hs : Step E r nm E') : Fr E0 E' := ⟨hs.fr _ h.fr, h.ext.trans hs.ext⟩

theorem need_out {p : Option Prop} {q : Prop} (h : need p q) : (∀ x, p = some x → x) ∧ q := by
  cases p with
  | none => exact ⟨fun x hx => (by cases hx), h⟩
  | some p =>
    have := Need.out h
    exact ⟨fun x hx => by injection hx with hx; subst hx; exact this.1, this.2⟩

theorem nilTest_run (hT : TabOk P T) {o : Oper} {st : St} {E : Env} {a : Act} (hs : Sim st E a) {eq : Bool} {A B : Prop} (h : nilTest T st o = some (eq, A, B)) :
    ∃ nil : Bool, (execOp a.eval o).run P E.w = .ok (.value (.bool (if nil then eq else !eq))) E.w ∧ (nil = true → A) ∧ (nil = false → B) := by
  have key : ∀ {op : BinOp} {t e : TypeId} {x : Operand} {v : Value} {nil : Bool}, (op = .eql ∨ op = .neq) → P.underlying t = some (.slice e) → a.eval x = v → (∃ ad n c, v = .slice ad n c ∧ ad.isNone = nil) →
      (do eqGuard op t x (.const (.slice none 0 0)) v (.slice none 0 0); binOp op t v (.slice none 0 0) : Sem Value).run P E.w = .ok (.bool (if nil then decide (op = .eql) else !decide (op = .eql))) E.w := by
    rintro op t e x v nil hop hu hx ⟨ad, n, c, rfl, rfl⟩
    rcases hop with rfl | rfl
    · have h1 : (Op.equal t (.slice ad n c) (.slice none 0 0)).run P E.w = .ok ad.isNone E.w := run_equal_slice_nil E.w t e ad n c hu
      simp [eqGuard, binOp, h1]
      cases ad <;> rfl
    · have h1 : (binOp .neq t (.slice ad n c) (.slice none 0 0)).run P E.w = .ok (.bool (!ad.isNone)) E.w := run_neq_slice_nil E.w t e ad n c hu
      simp [eqGuard, h1]
      cases ad <;> rfl
  have rel : ∀ {c : Cell} {t : Ty} {l : List (Den t)} {v : Value}, sliceOf st.look c = some ⟨t, l⟩ → CellR E c [v] → ∃ ad n cp, v = .slice ad n cp ∧ (ad.isNone = true → l.length = 0) := by
    intro c t l v h hc
    obtain ⟨ad, cap, e, _, h2⟩ := sliceOf_rel hs.ok (fun b x hb => (hs.H b).trans hb) h hc
    refine ⟨ad, _, cap, e, fun hn => ?_⟩
    cases l with
    | nil => rfl
    | cons y l =>
      obtain ⟨ad', _, he, _⟩ := h2 (by simp)
      rw [he] at hn; cases hn
  obtain ⟨dst, op, ty, pos, after, guard⟩ := o
  unfold nilTest at h
  simp only at h
  split at h
  · rename_i bop t x bty
    split at h
    · rename_i ti hti
      have hok := (hT.ty _ _ hti).und
      have fin : ∀ {bop : BinOp} {e : TypeId} {eq : Bool} {A B : Prop}, (bop = .eql ∨ bop = .neq) → decide (bop = .eql) = eq → P.underlying t = some (.slice e) →
          (match st.eval x with
            | .one (.c (.imm (.slice none 0 0))) => some (eq, True, False)
            | .one (.c c) => match sliceOf st.look c with | some ⟨_, l⟩ => some (eq, l.length = 0, True) | none => none
            | _ => none) = some (eq, A, B) →
          ∃ nil : Bool, (execOp a.eval { dst := dst, op := .binOp bop t x (.const (.slice none 0 0)) bty, type := ty, pos := pos, after := after, guard := guard }).run P E.w = .ok (.value (.bool (if nil then eq else !eq))) E.w ∧ (nil = true → A) ∧ (nil = false → B) := by
        intro bop e eq A B hop heq hu h
        have he := hs.eval x
        have vl : ∀ (s : Sem Value) v w', s.run P E.w = .ok v w' → (do pure (.value (← s)) : Sem Next).run P E.w = .ok (.value v) w' := fun s v w' hs => by simp [hs]
        split at h
        · rename_i hx
          rw [hx] at he
          obtain ⟨hv, _⟩ := he
          injection hv with hv
          simp only [Option.some.injEq, Prod.mk.injEq] at h
          obtain ⟨_, rfl, rfl⟩ := h
          refine ⟨true, ?_, fun _ => trivial, fun h => by cases h⟩
          have := key (nil := true) hop hu rfl ⟨none, 0, 0, hv, rfl⟩
          rw [heq] at this
          exact vl _ _ _ this
        · rename_i c _ hx
          rw [hx] at he
          split at h
          · rename_i t' l hsl
            simp only [Option.some.injEq, Prod.mk.injEq] at h
            obtain ⟨_, rfl, rfl⟩ := h
            obtain ⟨ad, n, cp, hv, hn⟩ := rel hsl he
            refine ⟨ad.isNone, ?_, hn, fun _ => trivial⟩
            have := key (nil := ad.isNone) hop hu rfl ⟨ad, n, cp, hv, rfl⟩
            rw [heq] at this
            exact vl _ _ _ this
          · cases h
        · cases h
      split at h
      · rename_i e hd
        rw [hd] at hok
        have hq : eq = true := by
          split at h
          · simp only [Option.some.injEq, Prod.mk.injEq] at h; exact h.1.symm
          · split at h
            · simp only [Option.some.injEq, Prod.mk.injEq] at h; exact h.1.symm
            · cases h
          · cases h
        subst hq
        exact fin (.inl rfl) rfl hok h
      · rename_i e hd
        rw [hd] at hok
        have hq : eq = false := by
          split at h
          · simp only [Option.some.injEq, Prod.mk.injEq] at h; exact h.1.symm
          · split at h
            · simp only [Option.some.injEq, Prod.mk.injEq] at h; exact h.1.symm
            · cases h
          · cases h
        subst hq
        exact fin (.inr rfl) rfl hok h
      · cases h
    · cases h
  · cases h

theorem Sim.putV {st : St} {E : Env} {a : Act} (h : Sim st E a) (dst : Option Tmp) {x : AV} {v : Value} (hx : AVR E x v) : Sim (st.put dst x) E (a.put dst v) := by
  cases dst with
  | none => exact h
  | some d =>
    refine ⟨h.defers, by simp [St.put, Act.put, h.len], fun i y hy => ?_, h.ok, h.H, h.U⟩
    simp only [St.put, List.getElem?_set] at hy
    by_cases hd : d = i
    · subst hd
      simp only [if_true] at hy
      split at hy
      · rename_i hlt
        injection hy with hy
        subst hy
        exact ⟨v, by simp [Act.put, h.len, hlt], hx⟩
      · cases hy
    · rw [if_neg hd] at hy
      obtain ⟨u, h1, h2⟩ := h.tmp i y hy
      exact ⟨u, by simp [Act.put, Array.getElem?_setIfInBounds_ne hd, h1], h2⟩

theorem doOp_sound (hT : TabOk P T) (hP : SpecsOk P T) {o : Oper} {nm : Nat} {st : St} {K : St → Prop} (h : doOp T o nm st K) {E0 E : Env} {a : Act} (hs : Sim st E a) (hf : Fr E0 E) (hnm : st.heap.length ≤ nm)
    {next : Act → World → Prop} {Q : Exit → Act → World → Prop} (hn : ∀ st' E' a', Sim st' E' a' → Fr E0 E' → K st' → next a' E'.w) : o.wp P a E.w next Q := by
  unfold doOp at h
  split at h
  · rename_i A B hnil
    obtain ⟨nil, hr, hA, hB⟩ := nilTest_run hT hs hnil
    cases h with
    | mk h1 h2 =>
      refine op_value hr ?_
      cases nil with
      | true => have := h1 (hA rfl); rw [fSt_eq] at this; exact hn _ E _ (hs.putV (x := .cell (bv _)) o.dst ⟨rfl, rfl⟩) hf this
      | false => have := h2 (hB rfl); rw [fSt_eq] at this; exact hn _ E _ (hs.putV (x := .cell (bv _)) o.dst ⟨rfl, rfl⟩) hf this
  · rename_i A B hnil
    obtain ⟨nil, hr, hA, hB⟩ := nilTest_run hT hs hnil
    cases h with
    | mk h1 h2 =>
      refine op_value hr ?_
      cases nil with
      | true => have := h1 (hA rfl); rw [fSt_eq] at this; exact hn _ E _ (hs.putV (x := .cell (bv _)) o.dst ⟨rfl, rfl⟩) hf this
      | false => have := h2 (hB rfl); rw [fSt_eq] at this; exact hn _ E _ (hs.putV (x := .cell (bv _)) o.dst ⟨rfl, rfl⟩) hf this
  split at h
  · rename_i r hr
    obtain ⟨hp, hk⟩ := need_out h
    rw [fRes_eq, fSt_eq] at hk
    exact dstep_sound hT hP hs.ok hs.eval (fun b x hb => (hs.H b).trans hb) hr hp (fun k _ hU => by have := hs.U _ hU; omega) fun E' v h1 h2 => hn _ E' _ (hs.step h1 h2) (hf.step h1) hk
  · exact h.elim

theorem Sim.same {st : St} {E : Env} {a : Act} (h : Sim st E a) {d : Tmp} {x : AV} (hx : AVR E x (a.tmps.getD d undef)) : Sim (st.put (some d) x) E a := by
  refine ⟨h.defers, by simp [St.put, h.len], fun i y hy => ?_, h.ok, h.H, h.U⟩
  simp only [St.put, List.getElem?_set] at hy
  by_cases hd : d = i
  · subst hd
    simp only [if_true] at hy
    split at hy
    · rename_i hlt
      injection hy with hy
      subst hy
      have hlt' : d < a.tmps.size := by rw [h.len]; exact hlt
      refine ⟨a.tmps[d], by simp [hlt'], ?_⟩
      simpa [hlt'] using hx
    · cases hy
  · rw [if_neg hd] at hy
    exact h.tmp i y hy

theorem Sim.dead {st : St} {E : Env} {a : Act} (h : Sim st E a) (dst : Option Tmp) : Sim (st.put dst .dead) E (a.put dst undef) := by
  cases dst with
  | none => exact h
  | some d =>
    refine ⟨h.defers, by simp [St.put, Act.put, h.len], fun i y hy => ?_, h.ok, h.H, h.U⟩
    simp only [St.put, List.getElem?_set] at hy
    by_cases hd : d = i
    · subst hd
      simp only [if_true] at hy
      split at hy
      · rename_i hlt
        injection hy with hy
        subst hy
        exact ⟨undef, by simp [Act.put, h.len, hlt], trivial⟩
      · cases hy
    · rw [if_neg hd] at hy
      obtain ⟨u, h1, h2⟩ := h.tmp i y hy
      exact ⟨u, by simp [Act.put, Array.getElem?_setIfInBounds_ne hd, h1], h2⟩

theorem Sim.skip {st : St} {E : Env} {a : Act} (h : Sim st E a) (dst : Option Tmp) : Sim (st.put dst (.tup [])) E (a.put dst undef) := by
  cases dst with
  | none => exact h
  | some d =>
    refine ⟨h.defers, by simp [St.put, Act.put, h.len], fun i y hy => ?_, h.ok, h.H, h.U⟩
    simp only [St.put, List.getElem?_set] at hy
    by_cases hd : d = i
    · subst hd
      simp only [if_true] at hy
      split at hy
      · rename_i hlt
        injection hy with hy
        subst hy
        exact ⟨undef, by simp [Act.put, h.len, hlt], ⟨#[], rfl, rfl⟩⟩
      · cases hy
    · rw [if_neg hd] at hy
      obtain ⟨u, h1, h2⟩ := h.tmp i y hy
      exact ⟨u, by simp [Act.put, Array.getElem?_setIfInBounds_ne hd, h1], h2⟩

/-- a guard's test, in both readings -/
theorem guard_rel {ops : Array Oper} {o : Oper} {d : Tmp} {want b : Bool} {st : St} {E : Env} {a : Act} (h : Sim st E a) (hg : guardTmp ops o = some (some (d, want))) (hb : st.tmp d = .cell (bv b)) :
    Region.wanted o (yielded ops a.tmps) = (b == want) ∧ a.tmps.getD d undef = .bool b := by
  have hrel := h.at_ d
  rw [hb] at hrel
  obtain ⟨e, _⟩ := hrel
  injection e with e
  refine ⟨?_, e⟩
  unfold guardTmp at hg
  unfold Region.wanted
  cases ho : o.guard with
  | none => rw [ho] at hg; cases hg
  | some jw =>
    obtain ⟨j, w⟩ := jw
    rw [ho] at hg
    simp only at hg
    cases hj : ops[j]? with
    | none => rw [hj] at hg; cases hg
    | some oj =>
      rw [hj] at hg
      simp only at hg
      cases hd : oj.dst with
      | none => rw [hd] at hg; cases hg
      | some d' =>
        rw [hd] at hg
        simp only [Option.some.injEq, Prod.mk.injEq] at hg
        obtain ⟨rfl, rfl⟩ := hg
        have hlt : d' < a.tmps.size := by
          rcases Nat.lt_or_ge d' a.tmps.size with h | h
          · exact h
          · rw [Array.getD_eq_getD_getElem?, Array.getElem?_eq_none h] at e
            simp [undef] at e
        have : a.tmps[d']? = some (.bool b) := by
          rw [Array.getElem?_eq_getElem hlt, ← e]
          simp [hlt]
        simp [yielded, hj, hd, this]

theorem guard_tup {ops : Array Oper} {o : Oper} {d : Tmp} {want : Bool} {st : St} {E : Env} {a : Act} (h : Sim st E a) (hg : guardTmp ops o = some (some (d, want))) (hb : st.tmp d = .tup []) :
    Region.wanted o (yielded ops a.tmps) = false := by
  have hrel := h.at_ d
  rw [hb] at hrel
  obtain ⟨vs, e, _⟩ := hrel
  unfold guardTmp at hg
  unfold Region.wanted
  cases ho : o.guard with
  | none => rw [ho] at hg; cases hg
  | some jw =>
    obtain ⟨j, w⟩ := jw
    rw [ho] at hg
    simp only at hg
    cases hj : ops[j]? with
    | none => rw [hj] at hg; cases hg
    | some oj =>
      rw [hj] at hg
      simp only at hg
      cases hd : oj.dst with
      | none => rw [hd] at hg; cases hg
      | some d' =>
        rw [hd] at hg
        simp only [Option.some.injEq, Prod.mk.injEq] at hg
        obtain ⟨rfl, rfl⟩ := hg
        have : yielded ops a.tmps j = none := by
          unfold yielded
          simp only [hj, Option.bind_some, hd]
          cases ht : a.tmps[d']? with
          | none => rfl
          | some x =>
            have : x = .tuple vs := by
              rw [← e, Array.getD_eq_getD_getElem?, ht]; rfl
            rw [this]
        show (yielded ops a.tmps j == some w) = false
        rw [this]
        rfl

theorem guard_none {ops : Array Oper} {o : Oper} (hg : guardTmp ops o = some none) (y : Nat → Option Bool) : Region.wanted o y = true := by
  unfold guardTmp at hg
  unfold Region.wanted
  cases ho : o.guard with
  | none => rfl
  | some jw =>
    obtain ⟨j, w⟩ := jw
    rw [ho] at hg
    simp only at hg
    split at hg
    · split at hg <;> simp at hg
    · cases hg

theorem exOps_sound (hT : TabOk P T) (hP : SpecsOk P T) {ops : Array Oper} {E0 : Env} {Q : Exit → Act → World → Prop} : ∀ (l : List Oper) (k : Nat) {st : St} {K : St → Prop} {E : Env} {a : Act}, ops.toList.drop k = l → exOps T ops l st K → Sim st E a → Fr E0 E →
    (∀ st' E' a', Sim st' E' a' → Fr E0 E' → K st' → Q .normal a' E'.w) → wpOps P ops Q (List.range' k l.length) a E.w
  | [], k, st, K, E, a, _, h, hs, hf, hq => by
    simp only [List.length_nil, List.range'_zero, wpOps]
    exact hq st E a hs hf h
  | o :: l, k, st, K, E, a, hd, h, hs, hf, hq => by
    have hk : ops[k]? = some o := by
      rw [← Array.getElem?_toList]
      have := congrArg (·[0]?) hd
      simpa using this
    have hd' : ops.toList.drop (k + 1) = l := by
      have := congrArg (List.drop 1) hd
      simpa using this
    have run : ∀ (st1 : St), Sim st1 E a → (withName lits st1.heap st1.heap.length fun nm => doOp T o nm st1 fun st' => exOps T ops l st' K) → o.wp P a E.w (wpOps P ops Q (List.range' (k + 1) l.length)) Q := by
      intro st1 hs1 h1
      obtain ⟨nm, h2, h1⟩ := named h1
      exact doOp_sound hT hP h1 hs1 hf h2 fun st' E' a' g1 g2 g3 => exOps_sound hT hP l (k + 1) hd' g3 g1 g2 hq
    rw [List.length_cons, List.range'_succ]
    simp only [wpOps, hk]
    unfold exOps at h
    split at h
    · exact h.elim
    · rename_i hg
      rw [if_pos (guard_none hg _)]
      exact .inl (run st hs h)
    · rename_i d want hg
      split at h
      · rename_i b hb
        obtain ⟨h1, h2⟩ := guard_rel hs hg hb
        rw [h1]
        cases b with
        | true =>
          simp only [Br] at h
          have hs' : Sim (st.put (some d) (.cell (bv true))) E a := hs.same (by rw [h2]; exact ⟨rfl, rfl⟩)
          cases want with
          | true => simp only [fSt_eq] at h; exact .inl (run _ hs' h)
          | false => simp only [fSt_eq] at h; exact exOps_sound hT hP l (k + 1) hd' h (hs'.skip o.dst) hf hq
        | false =>
          simp only [Br] at h
          have hs' : Sim (st.put (some d) (.cell (bv false))) E a := hs.same (by rw [h2]; exact ⟨rfl, rfl⟩)
          cases want with
          | false => simp only [fSt_eq] at h; exact .inl (run _ hs' h)
          | true => simp only [fSt_eq] at h; exact exOps_sound hT hP l (k + 1) hd' h (hs'.skip o.dst) hf hq
      · rename_i hb
        rw [guard_tup hs hg hb]
        simp only [fSt_eq] at h
        exact exOps_sound hT hP l (k + 1) hd' h (hs.skip o.dst) hf hq
      · exact h.elim

end
end Go.Fw

/- Code, loops, what a function leaves at its end. -/
namespace Go.Fw
set_option linter.unusedVariables false
set_option linter.unusedSimpArgs false

abbrev Cont := Exit → St → Prop

def Cov (K : Cont) (E0 : Env) (Q : Exit → Act → World → Prop) : Prop :=
  ∀ e st' E' a', K e st' → Sim st' E' a' → Fr E0 E' → Q e a' E'.w

/-- from this abstract state the code ends only as K says -/
def Does (P : Program) (m : Nat) (c : Code) (st : St) (K : Cont) : Prop :=
  ∀ E0 Q E a, (∀ b, E0.U b → b < m) → Sim st E a → Fr E0 E → Cov K E0 Q → c.wp P Q a E.w

inductive LoopG (P : Program) (m : Nat) (c : Code) (st : St) (K : Cont) : Prop where
  | mk : Does P m (.loop c) st K → LoopG P m c st K
inductive DrawG (P : Program) (m : Nat) (id : Nat) (ops : Array Oper) (st : St) (K : St → Prop) : Prop where
  | mk : Does P m (.region id ops true) st (fun e st' => e = .normal ∧ K st') → DrawG P m id ops st K

def putB (st : St) (c : Operand) (b : Bool) : St := match c with | .tmp t => st.put (some t) (.cell (bv b)) | _ => st

/-- THE EVALUATOR OF CODE: stops at loops and at regions whose order is drawn -/
def ex (P : Program) (T : Tab) (m : Nat) : Code → St → Cont → Prop
  | .skip, st, K => K .normal st
  | .label _, st, K => K .normal st
  | .seq x y, st, K => ex P T m x st fun e st' => match e with
    | .normal => ex P T m y st' K
    | .exit i => K (.exit i) st'
    | .ret => K .ret st'
    | _ => False
  | .cond c x y, st, K => match st.eval c with
    | .one (.c (.imm (.bool b))) => Br b (fSt (putB st c true) fun st => ex P T m x st K) (fSt (putB st c false) fun st => ex P T m y st K)
    | _ => False
  | .block id c, st, K => ex P T m c st fun e st' => match e with
    | .normal => K .normal st'
    | .exit i => (match Nat.beq i id with | true => K .normal st' | false => K (.exit i) st')
    | .ret => K .ret st'
    | _ => False
  | .loop c, st, K => LoopG P m c st K
  | .exit i, st, K => K (.exit i) st
  | .ret, st, K => K .ret st
  | .region id ops d, st, K => match d with
    | false => exOps T ops ops.toList st fun st' => K .normal st'
    | true => DrawG P m id ops st fun st' => K .normal st'
  | _, _, _ => False

section
variable {P : Program} {T : Tab}

theorem Sim.lit {st : St} {E : Env} {a : Act} (h : Sim st E a) {c : Operand} {b : Bool} (hc : st.eval c = .one (.c (.imm (.bool b)))) : Sim (putB st c b) E a ∧ a.eval c = .bool b := by
  have h1 := h.eval c
  rw [hc] at h1
  obtain ⟨h1, _⟩ := h1
  injection h1 with h1
  refine ⟨?_, h1⟩
  unfold putB
  split
  · rename_i t
    refine h.same ?_
    have : a.tmps.getD t undef = .bool b := h1
    rw [this]
    exact ⟨rfl, rfl⟩
  · exact h

theorem ex_sound (hT : TabOk P T) (hP : SpecsOk P T) {m : Nat} : ∀ (c : Code) {st : St} {K : Cont}, ex P T m c st K → Does P m c st K := by
  intro c
  induction c with
  | skip => intro st K h E0 Q E a hm hs hf hc; exact wp_skip (hc _ _ _ _ h hs hf)
  | label l => intro st K h E0 Q E a hm hs hf hc; exact wp_label (hc _ _ _ _ h hs hf)
  | exit i => intro st K h E0 Q E a hm hs hf hc; exact wp_exit (hc _ _ _ _ h hs hf)
  | ret => intro st K h E0 Q E a hm hs hf hc; exact wp_ret (hc _ _ _ _ h hs hf)
  | seq x y hx hy =>
    intro st K h E0 Q E a hm hs hf hc
    unfold ex at h
    refine wp_seq (hx h E0 _ E a hm hs hf ?_)
    intro e st' E' a' hk hs' hf'
    cases e with
    | normal => exact hy hk E0 Q E' a' hm hs' hf' hc
    | exit i => exact hc _ _ _ _ hk hs' hf'
    | ret => exact hc _ _ _ _ hk hs' hf'
    | goto l => exact hk.elim
    | panic ch => exact hk.elim
    | outgrown => exact hk.elim
  | cond c x y hx hy =>
    intro st K h E0 Q E a hm hs hf hc
    unfold ex at h
    split at h
    · rename_i b hb
      obtain ⟨hs', he⟩ := hs.lit hb
      rw [fSt_eq, fSt_eq] at h
      cases b with
      | true => exact wp_cond_true he (hx h E0 Q E a hm hs' hf hc)
      | false => exact wp_cond_false he (hy h E0 Q E a hm hs' hf hc)
    · exact h.elim
  | block id c hx =>
    intro st K h E0 Q E a hm hs hf hc
    unfold ex at h
    refine wp_block (hx h E0 _ E a hm hs hf ?_)
    intro e st' E' a' hk hs' hf'
    cases e with
    | normal => exact hc _ _ _ _ hk hs' hf'
    | exit i =>
      simp only [Exit.inBlock]
      simp only at hk
      split at hk
      · rename_i hb
        rw [if_pos (Nat.eq_of_beq_eq_true hb)]
        exact hc _ _ _ _ hk hs' hf'
      · rename_i hb
        rw [if_neg (fun e => by subst e; simp at hb)]
        exact hc _ _ _ _ hk hs' hf'
    | ret => exact hc _ _ _ _ hk hs' hf'
    | goto l => exact hk.elim
    | panic ch => exact hk.elim
    | outgrown => exact hk.elim
  | loop c hx => intro st K h; cases h with | mk h => exact h
  | region id ops d =>
    intro st K h E0 Q E a hm hs hf hc
    unfold ex at h
    cases d with
    | true =>
      cases h with
      | mk h =>
        refine h E0 Q E a hm hs hf ?_
        rintro e st' E' a' ⟨rfl, hk⟩ hs' hf'
        exact hc _ _ _ _ hk hs' hf'
    | false =>
      refine wp_region ?_
      rw [List.range_eq_range']
      have := exOps_sound (Q := Q) hT hP ops.toList 0 (by simp) h hs hf fun st' E' a' h1 h2 h3 => hc _ _ _ _ h3 h1 h2
      simpa using this
  | _ => intro st K h; exact h.elim

-- loops

theorem has_min {p : Nat → Prop} (h : ∃ n, p n) : ∃ n, p n ∧ ∀ k, p k → n ≤ k := by
  obtain ⟨n, hn⟩ := h
  induction n using Nat.strongRecOn with
  | _ n ih =>
    by_cases hs : ∃ k, k < n ∧ p k
    · obtain ⟨k, hk, hp⟩ := hs; exact ih k hk hp
    · exact ⟨n, hn, fun k hk => by rcases Nat.lt_or_ge k n with h | h; exact absurd ⟨k, h, hk⟩ hs; exact h⟩

open Classical in
noncomputable def least (p : Nat → Prop) : Nat := if h : ∃ n, p n then Classical.choose (has_min h) else 0
theorem least_at {p : Nat → Prop} (h : ∃ n, p n) : p (least p) := by
  unfold least; rw [dif_pos h]; exact (Classical.choose_spec (has_min h)).1
theorem least_le {p : Nat → Prop} {n : Nat} (h : p n) : least p ≤ n := by
  unfold least; rw [dif_pos ⟨n, h⟩]; exact (Classical.choose_spec (has_min ⟨n, h⟩)).2 n h

/-- the same world, seen less sharply -/
def Le (m : Nat) (st st' : St) : Prop :=
  ∀ E0 E a, (∀ b, E0.U b → b < m) → Sim st E a → Fr E0 E → ∃ E', E'.w = E.w ∧ Sim st' E' a ∧ Fr E0 E'

theorem Le.refl (m : Nat) (st : St) : Le m st st := fun E0 E a _ hs hf => ⟨E, rfl, hs, hf⟩

theorem loop_rule {X : Type} {m : Nat} {c : Code} {st : St} {K : Cont} (S : X → St) (I : X → Prop) (μ : X → Nat) (x0 : X) (h0 : Le m st (S x0)) (hI : I x0)
    (h : ∀ x, I x → Does P m c (S x) fun e st' => match e with | .normal => ∃ x', I x' ∧ μ x' < μ x ∧ Le m st' (S x') | e => K e st') : LoopG P m c st K := by
  refine .mk fun E0 Q E a hm hs hf hc => ?_
  let at_ : Act → World → Nat → Prop := fun a w n => ∃ x E, I x ∧ μ x = n ∧ E.w = w ∧ Sim (S x) E a ∧ Fr E0 E
  refine wp_loop (fun a w => ∃ n, at_ a w n) (fun a w => least (at_ a w)) ?_ ?_
  · obtain ⟨E', e, h1, h2⟩ := h0 E0 E a hm hs hf
    exact ⟨_, x0, E', hI, rfl, e, h1, h2⟩
  · intro a w hn
    obtain ⟨x, E, hIx, hμ, rfl, h1, h2⟩ := least_at hn
    refine h x hIx E0 _ E a hm h1 h2 ?_
    intro e st' E' a' hk hs' hf'
    cases e with
    | normal =>
      obtain ⟨x', hI', hlt, hle⟩ := hk
      obtain ⟨E'', e, h3, h4⟩ := hle E0 E' a' hm hs' hf'
      have hat : at_ a' E'.w (μ x') := ⟨x', E'', hI', rfl, e, h3, h4⟩
      refine ⟨⟨_, hat⟩, ?_⟩
      have := least_le hat
      show least (at_ a' E'.w) < least (at_ a E.w)
      rw [← hμ]
      omega
    | _ => exact hc _ _ _ _ hk hs' hf'

/-- at most so many rounds -/
def RD (P : Program) (m : Nat) (c : Code) (K : Cont) : Nat → St → Prop
  | 0, _ => False
  | n + 1, st => Does P m c st fun e st' => match e with | .normal => RD P m c K n st' | e => K e st'
inductive RoundG (P : Program) (m : Nat) (c : Code) (K : Cont) (n : Nat) (st : St) : Prop where
  | mk : RD P m c K n st → RoundG P m c K n st

theorem RD_rounds {m : Nat} {c : Code} {K : Cont} {E0 : Env} {Q : Exit → Act → World → Prop} (hm : ∀ b, E0.U b → b < m) (hc : Cov K E0 Q) : ∀ (n : Nat) {st : St} {E : Env} {a : Act}, RD P m c K n st → Sim st E a → Fr E0 E → Code.rounds P c Q n a E.w
  | 0, _, _, _, h, _, _ => h.elim
  | n + 1, st, E, a, h, hs, hf => by
    refine h E0 _ E a hm hs hf ?_
    intro e st' E' a' hk hs' hf'
    cases e with
    | normal => exact RD_rounds hm hc n hk hs' hf'
    | _ => exact hc _ _ _ _ hk hs' hf'

theorem loop_unroll {m : Nat} {c : Code} {st : St} {K : Cont} (n : Nat) (h : RoundG P m c K n st) : LoopG P m c st K :=
  .mk fun E0 Q E a hm hs hf hc => wp_loop_rounds n (by cases h with | mk h => exact RD_rounds hm hc n h hs hf)
theorem round_ {m n : Nat} {c : Code} {st : St} {K : Cont} (h : Does P m c st fun e st' => match e with | .normal => RoundG P m c K n st' | e => K e st') : RoundG P m c K (n + 1) st := by
  refine .mk fun E0 Q E a hm hs hf hc => h E0 Q E a hm hs hf ?_
  intro e st' E' a' hk hs' hf'
  refine hc e st' E' a' ?_ hs' hf'
  cases e with
  | normal => cases hk with | mk hk => exact hk
  | _ => exact hk

theorem Does.mono {m : Nat} {c : Code} {st : St} {K K' : Cont} (h : Does P m c st K) (hk : ∀ e st', K e st' → K' e st') : Does P m c st K' :=
  fun E0 Q E a hm hs hf hc => h E0 Q E a hm hs hf fun e st' E' a' h1 h2 h3 => hc e st' E' a' (hk _ _ h1) h2 h3

end
end Go.Fw

/- Weakening: blocks are frozen, dropped and named anew. -/
namespace Go.Fw
set_option linter.unusedVariables false
set_option linter.unusedSimpArgs false

def memN (b : Nat) : List Nat → Bool
  | [] => false
  | x :: r => match Nat.beq b x with | true => true | false => memN b r
theorem memN_true {b : Nat} : ∀ {l : List Nat}, memN b l = true → b ∈ l
  | [], h => by cases h
  | x :: r, h => by
    unfold memN at h
    split at h
    · rename_i hb; rw [Nat.eq_of_beq_eq_true hb]; simp
    · exact List.mem_cons_of_mem _ (memN_true h)
theorem memN_false {b : Nat} : ∀ {l : List Nat}, memN b l = false → b ∉ l
  | [], h => by simp
  | x :: r, h => by
    unfold memN at h
    split at h
    · cases h
    · rename_i hb
      have := memN_false h
      intro hm
      rcases List.mem_cons.1 hm with rfl | hm
      · simp at hb
      · exact this hm

section
variable (look : Nat → Option Blk) (us : List Nat)

def fzC (c : Cell) : Cell := match c with
  | .own b => match memN b us with
    | true => match sliceOf look (.own b) with | some ⟨t, l⟩ => .ro t l | none => .own b
    | false => .own b
  | .sub b o n => match memN b us with
    | true => match sliceOf look (.sub b o n) with | some ⟨t, l⟩ => .ro t l | none => .sub b o n
    | false => .sub b o n
  | c => c
def fzV : V1 → V1
  | .c x => .c (fzC look us x)
  | .agg cs => .agg (cs.map (fzC look us))
def fzA : AV → AV
  | .dead => .dead
  | .one v => .one (fzV look us v)
  | .tup l => .tup (l.map (fzV look us))
def fzB : Blk → Blk
  | .arr t l => .arr t l
  | .var cs => .var (cs.map (fzC look us))
  | .mp ka kt vt l => .mp ka kt vt l

def inN (acc : List Nat) : List Nat → Bool
  | [] => true
  | x :: r => match memN x acc with | true => inN acc r | false => false
def nodupN : List Nat → Bool
  | [] => true
  | x :: r => match memN x r with | true => false | false => nodupN r
def prefN : Nat → Nat → List Nat → Bool
  | 0, _, _ => true
  | _ + 1, _, [] => false
  | m + 1, k, x :: r => match Nat.beq x k with | true => prefN m (k + 1) r | false => false
def chkAcc (m : Nat) (acc : List Nat) : Bool := match nodupN acc with | true => prefN m 0 acc | false => false
def chkH (acc : List Nat) : List Nat → Bool
  | [] => true
  | n :: r => match memN n us with
    | true => chkH acc r
    | false => match look n with
      | some x => (match inN acc (fzB look us x).names with | true => chkH acc r | false => false)
      | none => chkH acc r
def wkB (acc : List Nat) (n : Nat) : Option Blk := match memN n us with
  | true => none
  | false => match look n with
    | some x => some ((fzB look us x).rn (idx acc))
    | none => none
def wkH (acc : List Nat) : List (Option Blk) := acc.map (wkB look us acc)
end

theorem inN_mem {acc : List Nat} : ∀ {l : List Nat}, inN acc l = true → ∀ x ∈ l, x ∈ acc
  | [], _, x, hx => by cases hx
  | y :: r, h, x, hx => by
    unfold inN at h
    split at h
    · rename_i hy
      rcases List.mem_cons.1 hx with rfl | hx
      · exact memN_true hy
      · exact inN_mem h x hx
    · cases h
theorem nodupN_ok : ∀ {l : List Nat}, nodupN l = true → l.Nodup
  | [], _ => List.nodup_nil
  | x :: r, h => by
    unfold nodupN at h
    split at h
    · cases h
    · rename_i hx
      exact List.nodup_cons.2 ⟨memN_false hx, nodupN_ok h⟩
theorem prefN_ok : ∀ {m k : Nat} {l : List Nat}, prefN m k l = true → ∀ i, i < m → l[i]? = some (k + i)
  | 0, _, _, _, i, hi => by omega
  | _ + 1, _, [], h, _, _ => by cases h
  | m + 1, k, x :: r, h, i, hi => by
    unfold prefN at h
    split at h
    · rename_i hx
      cases i with
      | zero => simp [Nat.eq_of_beq_eq_true hx]
      | succ i => have := prefN_ok h i (by omega); simp [this]; omega
    · cases h
theorem chkAcc_ok {m : Nat} {acc : List Nat} (h : chkAcc m acc = true) : acc.Nodup ∧ ∀ i, i < m → acc[i]? = some i := by
  unfold chkAcc at h
  split at h
  · rename_i h1
    exact ⟨nodupN_ok h1, fun i hi => by have := prefN_ok h i hi; simpa using this⟩
  · cases h
theorem chkH_ok {look : Nat → Option Blk} {us acc : List Nat} : ∀ {l : List Nat}, chkH look us acc l = true → ∀ n ∈ l, n ∉ us → ∀ x, look n = some x → ∀ k ∈ (fzB look us x).names, k ∈ acc
  | [], _, n, hn => by cases hn
  | y :: r, h, n, hn => by
    intro hu x hx k hk
    unfold chkH at h
    rcases List.mem_cons.1 hn with rfl | hn
    · split at h
      · rename_i hm; exact absurd (memN_true hm) hu
      · rw [hx] at h
        simp only at h
        split at h
        · rename_i hi; exact inN_mem hi k hk
        · cases h
    · have : chkH look us acc r = true := by
        split at h
        · exact h
        · split at h
          · split at h
            · exact h
            · cases h
          · exact h
      exact chkH_ok this n hn hu x hx k hk

section
variable {E : Env} {look : Nat → Option Blk} {us : List Nat}

theorem fzC_rel (hH : HeapOk E) (hl : ∀ b, E.H b = look b) {c : Cell} {vs : List Value} (hc : CellR E c vs) : CellR (killE E us) (fzC look us c) vs := by
  have hl' : ∀ b x, look b = some x → E.H b = some x := fun b x h => (hl b).trans h
  have key : ∀ {c : Cell} {t : Ty} {l : List (Den t)} {v : Value}, (∀ n ∈ c.names, n ∈ us) → sliceOf look c = some ⟨t, l⟩ → CellR E c [v] → CellR (killE E us) (.ro t l) [v] := by
    intro c t l v hn h hc
    refine ⟨v, rfl, ?_⟩
    exact (sliceOf_rel hH hl' h hc).mono (fun g hg => ⟨SU.mono hn hg, rfl⟩) fun _ _ hx => hx.su
  unfold fzC
  split
  · rename_i b
    split
    · rename_i hb
      split
      · rename_i t l hs
        have hc' := hc
        obtain ⟨v, ⟨e, _⟩, _⟩ := hc'
        subst e
        exact key (fun n hn => by simp [Cell.names] at hn; subst hn; exact memN_true hb) hs hc
      · exact hc.ext (killE_ext us)
    · exact hc.ext (killE_ext us)
  · rename_i b o n
    split
    · rename_i hb
      split
      · rename_i t l hs
        have hc' := hc
        obtain ⟨v, ⟨e, _⟩, _⟩ := hc'
        subst e
        exact key (fun n hn => by simp [Cell.names] at hn; subst hn; exact memN_true hb) hs hc
      · exact hc.ext (killE_ext us)
    · exact hc.ext (killE_ext us)
  · exact hc.ext (killE_ext us)

theorem fzIR (hH : HeapOk E) (hl : ∀ b, E.H b = look b) : ∀ {cs : List Cell} {vs : List Value}, IR E cs vs → IR (killE E us) (cs.map (fzC look us)) vs
  | [], _, h => h
  | _ :: _, _, ⟨r, s, e, h1, h2⟩ => ⟨r, s, e, fzC_rel hH hl h1, fzIR hH hl h2⟩
theorem fzV_rel (hH : HeapOk E) (hl : ∀ b, E.H b = look b) : {x : V1} → {v : Value} → V1R E x v → V1R (killE E us) (fzV look us x) v
  | .c _, _, h => fzC_rel hH hl h
  | .agg _, _, ⟨vals, e, h⟩ => ⟨vals, e, fzIR hH hl h⟩
theorem fzVs (hH : HeapOk E) (hl : ∀ b, E.H b = look b) : ∀ {xs : List V1} {vs : List Value}, VsR E xs vs → VsR (killE E us) (xs.map (fzV look us)) vs
  | [], _, h => h
  | _ :: _, _, ⟨r, s, e, h1, h2⟩ => ⟨r, s, e, fzV_rel hH hl h1, fzVs hH hl h2⟩
theorem fzA_rel (hH : HeapOk E) (hl : ∀ b, E.H b = look b) : {x : AV} → {v : Value} → AVR E x v → AVR (killE E us) (fzA look us x) v
  | .dead, _, _ => trivial
  | .one _, _, h => fzV_rel hH hl h
  | .tup _, _, ⟨vs, e, h⟩ => ⟨vs, e, fzVs hH hl h⟩
theorem fzC_size (c : Cell) : (fzC look us c).size = c.size := by
  unfold fzC
  split
  · split
    · split <;> rfl
    · rfl
  · split
    · split <;> rfl
    · rfl
  · rfl
theorem fzB_shape (x : Blk) : shape (fzB look us x) = shape x := by
  cases x with
  | arr t l => rfl
  | var cs =>
    simp only [fzB, shape, List.map_map]
    congr 1
    apply List.map_congr_left
    intro c _
    exact fzC_size c
  | mp _ _ _ _ => rfl
theorem fzB_rel (hH : HeapOk E) (hl : ∀ b, E.H b = look b) {b : Nat} {x : Blk} (hx : BlkR E b x) : BlkR (killE E us) b (fzB look us x) := by
  cases x with
  | arr t l =>
    rcases hx with h | ⟨g, cs, el, vs, spare, h1, h2, h3, h4⟩
    · exact .inl h
    · exact .inr ⟨g, cs, el, vs, spare, h1, h2, h3, h4.mono fun _ _ hx => hx.su⟩
  | var is =>
    obtain ⟨g, cs, el, h1, h2, h3⟩ := hx
    exact ⟨g, cs, el, h1, h2, fzIR hH hl h3⟩
  | mp ka kt vt l => exact hx
end

def weakE (E : Env) (look : Nat → Option Blk) (us acc : List Nat) : Env :=
  { w := E.w, ρ := fun i => (acc[i]?).bind E.ρ, S := SU E us, H := fun b => match (wkH look us acc)[b]? with | some x => x | none => none, U := fun i => i < acc.length }

theorem weakE_H {E : Env} {look : Nat → Option Blk} {us acc : List Nat} {b : Nat} {x : Blk} (h : (weakE E look us acc).H b = some x) :
    ∃ n y, acc[b]? = some n ∧ n ∉ us ∧ look n = some y ∧ x = (fzB look us y).rn (idx acc) := by
  have h : (match (wkH look us acc)[b]? with | some x => x | none => none) = some x := h
  unfold wkH at h
  rw [List.getElem?_map] at h
  cases hb : acc[b]? with
  | none => rw [hb] at h; cases h
  | some n =>
    rw [hb] at h
    simp only [Option.map_some] at h
    unfold wkB at h
    split at h
    · cases h
    · rename_i hn
      split at h
      · rename_i y hy
        injection h with h
        exact ⟨n, y, rfl, memN_false hn, hy, h.symm⟩
      · cases h

theorem weak {m : Nat} {E0 E : Env} {look : Nat → Option Blk} {us acc : List Nat} (hm : ∀ b, E0.U b → b < m) (hH : HeapOk E) (hl : ∀ b, E.H b = look b) (hf : Fr E0 E)
    (c1 : chkAcc m acc = true) (c2 : chkH look us acc acc = true) :
    HeapOk (weakE E look us acc) ∧ Fr E0 (weakE E look us acc) ∧ ∀ x v, inN acc (fzA look us x).names = true → AVR E x v → AVR (weakE E look us acc) ((fzA look us x).rn (idx acc)) v := by
  obtain ⟨hn, hpre⟩ := chkAcc_ok c1
  have hk := killE_ok hH us
  have kH : ∀ n y, n ∉ us → look n = some y → (killE E us).H n = some y := fun n y h1 h2 => by
    show (if n ∈ us then none else E.H n) = some y
    rw [if_neg h1, hl, h2]
  have rnat : ∀ b ∈ acc, RnAt (killE E us) (weakE E look us acc) (idx acc) b := by
    intro b hb _
    have h1 := idx_mem hn hb
    refine ⟨(List.getElem?_eq_some_iff.1 h1).1, fun x hx => ?_⟩
    obtain ⟨n, y, h2, h3, h4, rfl⟩ := weakE_H hx
    rw [h1] at h2
    injection h2 with h2
    subst h2
    refine ⟨y, kH _ _ h3 h4, by rw [shape_rn, fzB_shape], ?_⟩
    show (acc[idx acc b]?).bind E.ρ = E.ρ b
    rw [h1]; rfl
  refine ⟨⟨fun b x hx => ?_, fun b b' x x' g hx hx' hr hr' => ?_, hk.st⟩, ⟨⟨hf.fr.os, hf.fr.tape, hf.fr.output, hf.fr.size, hf.fr.old, fun b x g hx hr => ?_, (killE_fr us hf.fr).S⟩, ⟨fun g hg => ((hf.ext.trans (killE_ext us)).S g hg), fun b hb => ?_, fun b x' hb hx => ?_⟩⟩, fun x v hx hv => ?_⟩
  · obtain ⟨n, y, h1, h2, h3, rfl⟩ := weakE_H hx
    obtain ⟨k1, k2, k3⟩ := hk.blk n y (kH _ _ h2 h3)
    obtain ⟨_, k2', _⟩ := hH.blk n y ((hl n).trans h3)
    have hr : (weakE E look us acc).ρ (idx acc n) = (killE E us).ρ n := by
      show (acc[idx acc n]?).bind E.ρ = E.ρ n
      rw [idx_at hn h1, h1]; rfl
    have := BlkR.rn (E := killE E us) (E' := weakE E look us acc) (f := idx acc) (i := n) rfl (.inl fun _ h => h) (fun j hj => rnat j (chkH_ok c2 n (List.mem_of_getElem? h1) h2 y h3 j hj)) hr (fzB_rel hH hl k2')
    rw [idx_at hn h1] at this hr
    exact ⟨(List.getElem?_eq_some_iff.1 h1).1, this, fun g hg => k3 g (hr ▸ hg)⟩
  · obtain ⟨n, y, h1, h2, h3, rfl⟩ := weakE_H hx
    obtain ⟨n', y', h1', h2', h3', rfl⟩ := weakE_H hx'
    have e1 : E.ρ n = some g := by have : (acc[b]?).bind E.ρ = some g := hr; rwa [h1] at this
    have e2 : E.ρ n' = some g := by have : (acc[b']?).bind E.ρ = some g := hr'; rwa [h1'] at this
    have := hH.inj n n' y y' g ((hl n).trans h3) ((hl n').trans h3') e1 e2
    subst this
    rw [← idx_at hn h1, ← idx_at hn h1']
  · obtain ⟨n, y, h1, h2, h3, rfl⟩ := weakE_H hx
    have e1 : E.ρ n = some g := by have : (acc[b]?).bind E.ρ = some g := hr; rwa [h1] at this
    exact hf.fr.own n y g ((hl n).trans h3) e1
  · have := hpre b (hm b hb)
    exact (List.getElem?_eq_some_iff.1 this).1
  · have h0 := hpre b (hm b hb)
    obtain ⟨n, y, h1, h2, h3, rfl⟩ := weakE_H hx
    rw [h0] at h1
    injection h1 with h1
    subst h1
    obtain ⟨x, e1, e2, e3, e4⟩ := (hf.ext.trans (killE_ext us)).H b y hb (kH _ _ h2 h3)
    refine ⟨x, e1, ?_, by rw [shape_rn, fzB_shape, e3], e4⟩
    show (acc[b]?).bind E.ρ = E0.ρ b
    rw [h0]
    exact e2
  · exact AVR.rn (E := killE E us) (E' := weakE E look us acc) rfl (.inl fun _ h => h) (fun i hi => rnat i (inN_mem hx i hi)) (fzA_rel hH hl hv)

def leV (look : Nat → Option Blk) (us acc : List Nat) (x y : AV) : Prop := match y with
  | .dead => True
  | y => inN acc (fzA look us x).names = true ∧ (fzA look us x).rn (idx acc) = y
def leT (look : Nat → Option Blk) (us acc : List Nat) : List AV → List AV → Prop
  | [], [] => True
  | x :: xs, y :: ys => leV look us acc x y ∧ leT look us acc xs ys
  | _, _ => False

theorem leT_at {look : Nat → Option Blk} {us acc : List Nat} : ∀ {xs ys : List AV}, leT look us acc xs ys → xs.length = ys.length ∧ ∀ (i : Nat) y, ys[i]? = some y → ∃ x, xs[i]? = some x ∧ leV look us acc x y
  | [], [], _ => ⟨rfl, fun i y h => by simp at h⟩
  | x :: xs, y :: ys, ⟨h1, h2⟩ => by
    obtain ⟨h3, h4⟩ := leT_at h2
    refine ⟨by simp [h3], fun i z hz => ?_⟩
    cases i with
    | zero => simp at hz; subst hz; exact ⟨x, rfl, h1⟩
    | succ i => exact h4 i z (by simpa using hz)
  | [], _ :: _, h => h.elim
  | _ :: _, [], h => h.elim

theorem leV_rel {E E' : Env} {look : Nat → Option Blk} {us acc : List Nat} {x y : AV} {v : Value} (h : leV look us acc x y) (hh : inN acc (fzA look us x).names = true → AVR E' ((fzA look us x).rn (idx acc)) v) : AVR E' y v := by
  cases y with
  | dead => trivial
  | one _ => obtain ⟨h1, h2⟩ := h; rw [← h2]; exact hh h1
  | tup _ => obtain ⟨h1, h2⟩ := h; rw [← h2]; exact hh h1

theorem Le.mk {m : Nat} {st st' : St} (us acc : List Nat) (c1 : chkAcc m acc = true) (c2 : chkH st.look us acc acc = true) (hh : wkH st.look us acc = st'.heap) (ht : leT st.look us acc st.tmps st'.tmps) : Le m st st' := by
  intro E0 E a hm hs hf
  obtain ⟨h1, h2, h3⟩ := weak hm hs.ok hs.H hf c1 c2
  obtain ⟨h4, h5⟩ := leT_at ht
  refine ⟨weakE E st.look us acc, rfl, ⟨hs.defers, hs.len.trans h4, fun i y hy => ?_, h1, fun b => ?_, fun b hb => ?_⟩, h2⟩
  · obtain ⟨x, hx, hxy⟩ := h5 i y hy
    obtain ⟨v, hv1, hv2⟩ := hs.tmp i x hx
    exact ⟨v, hv1, leV_rel (E := E) hxy fun hi => h3 x v hi hv2⟩
  · show (match (wkH st.look us acc)[b]? with | some x => x | none => none) = st'.look b
    rw [hh]; rfl
  · rw [← hh]
    have hb : b < acc.length := hb
    simpa [wkH] using hb

end Go.Fw

/- From the body of a function to its contract. -/
namespace Go.Fw
set_option linter.unusedVariables false
set_option linter.unusedSimpArgs false

def resOne (T : Tab) (st : St) : ResultVar → Option AV
  | .tmp t => some (st.tmp t)
  | .cell a t => match loadA T st.look t (st.tmp a) with
    | some r => (match r.pre with | none => some r.val | some _ => none)
    | none => none
def resAll (T : Tab) (st : St) : List ResultVar → Option AV
  | [r] => resOne T st r
  | l => match mapO (resOne T st) l with
    | some vs => (match ones vs with | some xs => some (.tup xs) | none => none)
    | none => none

-- a nil slice in what is handed back becomes one of one's own

def noCs (nm : Nat) : List Cell → Option (List Cell)
  | [] => none
  | c :: cs => match c with
    | .imm (.slice none 0 0) => some (.own nm :: cs)
    | c => match noCs nm cs with | some r => some (c :: r) | none => none
def noV (nm : Nat) : V1 → Option V1
  | .c c => match c with | .imm (.slice none 0 0) => some (.c (.own nm)) | _ => none
  | .agg cs => match noCs nm cs with | some r => some (.agg r) | none => none
def noVs (nm : Nat) : List V1 → Option (List V1)
  | [] => none
  | v :: vs => match noV nm v with
    | some w => some (w :: vs)
    | none => match noVs nm vs with | some r => some (v :: r) | none => none
def noA (nm : Nat) : AV → Option AV
  | .dead => none
  | .one v => match noV nm v with | some w => some (.one w) | none => none
  | .tup l => match noVs nm l with | some w => some (.tup w) | none => none

section
variable {E : Env} {nm : Nat} {t : Ty}
theorem no_cell {v : Value} (h : CellR E (.imm (.slice none 0 0)) [v]) : CellR (nilE E [] nm t) (.own nm) [v] := by
  obtain ⟨e, _⟩ := h
  injection e with e
  subst e
  exact nilE_own E [] nm t
theorem noCs_rel (hx : Ext E (nilE E [] nm t)) : ∀ {cs ds : List Cell} {vs : List Value}, noCs nm cs = some ds → IR E cs vs → IR (nilE E [] nm t) ds vs
  | [], _, _, h, _ => by cases h
  | c :: cs, ds, vs, h, ⟨r, s, e, h1, h2⟩ => by
    unfold noCs at h
    split at h
    · injection h with h
      subst h
      obtain ⟨e2, _⟩ := h1
      subst e2
      exact ⟨_, s, e, nilE_own E [] nm t, h2.ext hx⟩
    · split at h
      · rename_i r' hr'
        injection h with h
        subst h
        exact ⟨r, s, e, h1.ext hx, noCs_rel hx hr' h2⟩
      · cases h
theorem noV_rel (hx : Ext E (nilE E [] nm t)) {x y : V1} {v : Value} (h : noV nm x = some y) (hv : V1R E x v) : V1R (nilE E [] nm t) y v := by
  unfold noV at h
  split at h
  · split at h
    · injection h with h
      subst h
      exact no_cell hv
    · cases h
  · split at h
    · rename_i r hr
      injection h with h
      subst h
      obtain ⟨vals, e, hi⟩ := hv
      exact ⟨vals, e, noCs_rel hx hr hi⟩
    · cases h
theorem noVs_rel (hx : Ext E (nilE E [] nm t)) : ∀ {xs ys : List V1} {vs : List Value}, noVs nm xs = some ys → VsR E xs vs → VsR (nilE E [] nm t) ys vs
  | [], _, _, h, _ => by cases h
  | x :: xs, ys, vs, h, ⟨v, r, e, h1, h2⟩ => by
    unfold noVs at h
    split at h
    · rename_i w hw
      injection h with h
      subst h
      exact ⟨v, r, e, noV_rel hx hw h1, h2.ext hx⟩
    · split at h
      · rename_i r' hr'
        injection h with h
        subst h
        exact ⟨v, r, e, h1.ext hx, noVs_rel hx hr' h2⟩
      · cases h
theorem noA_rel (hx : Ext E (nilE E [] nm t)) {x y : AV} {v : Value} (h : noA nm x = some y) (hv : AVR E x v) : AVR (nilE E [] nm t) y v := by
  unfold noA at h
  split at h
  · cases h
  · split at h
    · rename_i w hw
      injection h with h
      subst h
      exact noV_rel hx hw hv
    · cases h
  · split at h
    · rename_i w hw
      injection h with h
      subst h
      obtain ⟨vs, e, hi⟩ := hv
      exact ⟨vs, e, noVs_rel hx hw hi⟩
    · cases h
theorem Back.nil {E0 : Env} {m : Nat} {r r' : AV} {upd : List (Option Blk)} {fresh : List Blk} {v : Value} (h : Back E0 m r' upd fresh v E) (t : Ty) (hr : noA (m + fresh.length) r' = some r) :
    Back E0 m r upd (fresh ++ [.arr t []]) v (nilE E [] (m + fresh.length) t) := by
  have hU : ¬ E.U (m + fresh.length) := fun hu => by have := (h.U _).1 hu; omega
  have st : Step E { pre := none, val := .dead, add := [.arr t []], set := [] } (m + fresh.length) (nilE E [] (m + fresh.length) t) := Step.nil (us := []) h.ok rfl rfl hU
  refine ⟨noA_rel st.ext hr h.val, st.ok, fun b => ?_, fun b => ?_, h.ext.trans st.ext, st.fr _ h.fr⟩
  · show (if b = m + fresh.length then some (Blk.arr t []) else if b ∈ ([] : List Nat) then none else E.H b) = _
    rw [if_neg (List.not_mem_nil), h.H b]
    by_cases h1 : b = m + fresh.length
    · subst h1
      rw [if_pos rfl, if_neg (by omega), List.getElem?_append_right (by omega)]
      simp
    · rw [if_neg h1]
      by_cases h2 : b < m
      · rw [if_pos h2, if_pos h2]
      · rw [if_neg h2, if_neg h2]
        by_cases h3 : b - m < fresh.length
        · rw [List.getElem?_append_left h3]
        · rw [List.getElem?_append_right (by omega), List.getElem?_eq_none (by omega), List.getElem?_eq_none (by simp; omega)]
  · show E.U b ∨ b = m + fresh.length ↔ _
    rw [h.U b, List.length_append, List.length_singleton]
    omega
end

inductive Ends (P : Program) (T : Tab) (m : Nat) (fn : Func) : AV → List (Option Blk) → List Blk → St → Prop where
  | mk {r : AV} {upd : List (Option Blk)} {fresh : List Blk} {st : St} (us acc : List Nat) (v : AV) (hr : resAll T st fn.results.toList = some v) (c1 : chkAcc m acc = true) (c2 : chkH st.look us acc acc = true)
      (c3 : inN acc (fzA st.look us v).names = true) (hu : Nat.beq upd.length m = true) (hh : wkH st.look us acc = upd ++ fresh.map some) (he : (fzA st.look us v).rn (idx acc) = r) : Ends P T m fn r upd fresh st
  | le {r : AV} {upd : List (Option Blk)} {fresh : List Blk} {st st' : St} (h : Le m st st') (h2 : Ends P T m fn r upd fresh st') : Ends P T m fn r upd fresh st
  | nil {r : AV} {upd : List (Option Blk)} {fresh : List Blk} {st : St} (t : Ty) (r' : AV) (fresh' : List Blk) (h : Ends P T m fn r' upd fresh' st) (hr : noA (m + fresh'.length) r' = some r) (hf : fresh' ++ [.arr t []] = fresh) : Ends P T m fn r upd fresh st

def EndK (P : Program) (T : Tab) (m : Nat) (fn : Func) (r : AV) (upd : List (Option Blk)) (fresh : List Blk) : Cont := fun e st => match e with
  | .normal => Ends P T m fn r upd fresh st
  | .ret => Ends P T m fn r upd fresh st
  | _ => False

section
variable {P : Program} {T : Tab}

def resRun (tmps : Array Value) : ResultVar → Sem Value
  | .tmp t => pure (tmps.getD t undef)
  | .cell p t => do loadVar t (← asAddr (tmps.getD p undef))
theorem results_eq (fn : Func) (tmps : Array Value) : results fn tmps = (do let vs ← fn.results.mapM (resRun tmps); pure (if h : vs.size = 1 then vs[0] else .tuple vs)) := by
  unfold results
  congr 1

theorem mapM_run {α : Type} (P : Program) (w : World) (f : α → Sem Value) : ∀ (l : List α) (vs : List Value), (∀ (i : Nat) x, l[i]? = some x → ∃ v, vs[i]? = some v ∧ (f x).run P w = .ok v w) → l.length = vs.length → (l.mapM f).run P w = .ok vs w
  | [], [], _, _ => by simp
  | x :: l, v :: vs, h, hl => by
    obtain ⟨v', h1, h2⟩ := h 0 x rfl
    simp at h1
    subst h1
    have := mapM_run P w f l vs (fun i y hy => h (i + 1) y (by simpa using hy)) (by simpa using hl)
    simp [List.mapM_cons, h2, this]
  | [], _ :: _, _, hl => by simp at hl
  | _ :: _, [], _, hl => by simp at hl

theorem resOne_run (hT : TabOk P T) {st : St} {E : Env} {a : Act} (hs : Sim st E a) {r : ResultVar} {x : AV} (h : resOne T st r = some x) :
    ∃ v, (resRun a.tmps r).run P E.w = .ok v E.w ∧ AVR E x v := by
  cases r with
  | tmp t =>
    simp only [resOne, Option.some.injEq] at h
    subst h
    exact ⟨_, by simp [resRun], hs.at_ t⟩
  | cell p t =>
    simp only [resOne] at h
    split at h
    · rename_i r hr
      split at h
      · rename_i hp
        injection h with h
        subst h
        obtain ⟨v, h1, h2, _, _⟩ := load_run hT hs.ok (fun b x hb => (hs.H b).trans hb) (hs.at_ p) hr (fun q hq => by rw [hp] at hq; cases hq)
        refine ⟨v, ?_, h2⟩
        unfold resRun
        simp only
        generalize a.tmps.getD p undef = va at h1 ⊢
        have hva : (∃ ad, va = .pointer (some ad)) ∨ ¬ ∃ ad, va = .pointer (some ad) := Classical.em _
        rcases hva with ⟨ad, rfl⟩ | hn
        · simpa [Instr.loadAt, Instr.sureAddr, asAddr] using h1
        · exfalso
          have : (Instr.sureAddr va) = stuck "an address expected (no nilCheck in front?)" := by
            unfold Instr.sureAddr
            split
            · exact absurd ⟨_, rfl⟩ hn
            · rfl
          simp [Instr.loadAt, this, stuck] at h1
      · cases h
    · cases h

theorem VsR.mk {E : Env} : ∀ {xs : List V1} {vs : List Value}, xs.length = vs.length → (∀ (i : Nat) x v, xs[i]? = some x → vs[i]? = some v → V1R E x v) → VsR E xs vs
  | [], [], _, _ => rfl
  | x :: xs, v :: vs, hl, h => ⟨v, vs, rfl, h 0 x v rfl rfl, VsR.mk (by simpa using hl) fun i y u hy hu => h (i + 1) y u (by simpa using hy) (by simpa using hu)⟩
  | [], _ :: _, hl, _ => by simp at hl
  | _ :: _, [], hl, _ => by simp at hl

theorem ones_at : ∀ {l : List AV} {xs : List V1}, ones l = some xs → l.length = xs.length ∧ ∀ (i : Nat) x, xs[i]? = some x → l[i]? = some (.one x)
  | [], xs, h => by simp [ones] at h; subst h; exact ⟨rfl, fun i x hx => by simp at hx⟩
  | a :: l, xs, h => by
    unfold ones at h
    split at h
    · rename_i h1 h2; cases h2
    · rename_i x r hx
      split at h
      · rename_i ys hys
        injection h with h
        subst h
        injection hx with e1 e2
        subst e1; subst e2
        obtain ⟨h3, h4⟩ := ones_at hys
        refine ⟨by simp [h3], fun i z hz => ?_⟩
        cases i with
        | zero => simp at hz; subst hz; rfl
        | succ i => simpa using h4 i z (by simpa using hz)
      · cases h
    · cases h

theorem resAll_run (hT : TabOk P T) {st : St} {E : Env} {a : Act} (hs : Sim st E a) {fn : Func} {x : AV} (h : resAll T st fn.results.toList = some x) : ∃ v, (results fn a.tmps).run P E.w = .ok v E.w ∧ AVR E x v := by
  have gen : ∀ (l : List ResultVar) (vs : List AV), mapO (resOne T st) l = some vs → ∃ us : List Value, us.length = l.length ∧ (∀ (i : Nat) y u, vs[i]? = some y → us[i]? = some u → AVR E y u) ∧
      (l.mapM (resRun a.tmps)).run P E.w = .ok us E.w := by
    intro l vs hm
    obtain ⟨h1, h2⟩ := mapO_some hm
    have : ∀ (l : List ResultVar) (vs : List AV), vs.length = l.length → (∀ (i : Nat) r, l[i]? = some r → ∃ y, resOne T st r = some y ∧ vs[i]? = some y) → ∃ us : List Value, us.length = l.length ∧ (∀ (i : Nat) y u, vs[i]? = some y → us[i]? = some u → AVR E y u) ∧
        ∀ (i : Nat) r, l[i]? = some r → ∃ u, us[i]? = some u ∧ (resRun a.tmps r).run P E.w = .ok u E.w := by
      intro l
      induction l with
      | nil => intro vs _ _; exact ⟨[], rfl, fun i y u _ hu => by simp at hu, fun i r hr => by simp at hr⟩
      | cons r l ih =>
        intro vs hl h
        cases vs with
        | nil => simp at hl
        | cons y vs =>
          obtain ⟨us, e1, e2, e3⟩ := ih vs (by simpa using hl) (fun i r hr => by simpa using h (i + 1) r (by simpa using hr))
          obtain ⟨y', hy, hy'⟩ := h 0 r rfl
          simp at hy'
          subst hy'
          obtain ⟨v, hv1, hv2⟩ := resOne_run hT hs hy
          refine ⟨v :: us, by simp [e1], fun i z u hz hu => ?_, fun i r' hr' => ?_⟩
          · cases i with
            | zero => simp at hz hu; subst hz; subst hu; exact hv2
            | succ i => exact e2 i z u (by simpa using hz) (by simpa using hu)
          · cases i with
            | zero => simp at hr'; subst hr'; exact ⟨v, rfl, hv1⟩
            | succ i => simpa using e3 i r' (by simpa using hr')
    obtain ⟨us, e1, e2, e3⟩ := this l vs h1 h2
    exact ⟨us, e1, e2, mapM_run P E.w _ l us e3 e1.symm⟩
  have run : ∀ us : List Value, (fn.results.toList.mapM (resRun a.tmps)).run P E.w = .ok us E.w →
      (results fn a.tmps).run P E.w = .ok (if h : us.toArray.size = 1 then us.toArray[0] else .tuple us.toArray) E.w := by
    intro us hu
    rw [results_eq, Array.mapM_eq_mapM_toList]
    simp [-Array.getD_eq_getD_getElem?, hu]
  unfold resAll at h
  split at h
  · rename_i r hl
    obtain ⟨v, h1, h2⟩ := resOne_run hT hs h
    refine ⟨v, ?_, h2⟩
    have := run [v] (by rw [hl]; exact mapM_run P E.w _ [r] [v] (fun i x hx => by
      cases i with
      | zero => simp at hx; subst hx; exact ⟨v, rfl, h1⟩
      | succ i => simp at hx) rfl)
    simpa using this
  · rename_i hl
    split at h
    · rename_i vs hm
      split at h
      · rename_i xs ho
        injection h with h
        subst h
        obtain ⟨us, e1, e2, e3⟩ := gen _ _ hm
        obtain ⟨o1, o2⟩ := ones_at ho
        have hlen : us.length ≠ 1 := by
          intro hu
          rw [e1] at hu
          match hr : fn.results.toList, hu with
          | [r], _ => exact hl r hr
        refine ⟨_, run us e3, ?_⟩
        rw [dif_neg (by simpa using hlen)]
        refine ⟨us.toArray, rfl, VsR.mk ?_ fun i x v hx hv => ?_⟩
        · have := (mapO_some hm).1
          simp only [List.size_toArray]
          show xs.length = us.length
          omega
        · exact e2 i _ v (o2 i x hx) (by simpa using hv)
      · cases h
    · cases h

theorem Back.of_ends {m : Nat} {E0 E : Env} {a : Act} {st : St} {fn : Func} {r : AV} {upd : List (Option Blk)} {fresh : List Blk} (hT : TabOk P T) (hm : ∀ b, E0.U b → b < m) (hs : Sim st E a) (hf : Fr E0 E)
    (h : Ends P T m fn r upd fresh st) : ∃ v, (results fn a.tmps).run P E.w = .ok v E.w ∧ ∃ E', E'.w = E.w ∧ Back E0 m r upd fresh v E' := by
  induction h generalizing E with
  | nil t r' fresh' _ hr he ih =>
    obtain ⟨v, k1, E2, k2, k3⟩ := ih hs hf
    subst he
    exact ⟨v, k1, nilE E2 [] _ t, k2, Back.nil k3 t hr⟩
  | le hle _ ih =>
    obtain ⟨E1, e1, s1, f1⟩ := hle E0 E a hm hs hf
    obtain ⟨v, k1, E2, k2, k3⟩ := ih s1 f1
    rw [e1] at k1 k2
    exact ⟨v, k1, E2, k2, k3⟩
  | @mk r upd fresh st us acc x hr c1 c2 c3 hu hh he =>
    obtain ⟨v, h1, h2⟩ := resAll_run hT hs hr
    obtain ⟨k1, k2, k3⟩ := weak hm hs.ok hs.H hf c1 c2
    have hu := Nat.eq_of_beq_eq_true hu
    have hlen : acc.length = m + fresh.length := by
      have := congrArg List.length hh
      simp [wkH] at this
      omega
    refine ⟨v, h1, weakE E _ us acc, rfl, he ▸ k3 x v c3 h2, k1, fun b => ?_, fun b => ?_, k2.ext, k2.fr⟩
    · show (match (wkH _ us acc)[b]? with | some x => x | none => none) = _
      rw [hh]
      split <;> rename_i hb
      · split
        · rename_i hlt
          rw [List.getElem?_append_left (by omega)] at hb
          rw [hb]; rfl
        · rename_i hlt
          rw [List.getElem?_append_right (by omega), hu, List.getElem?_map] at hb
          cases hf : fresh[b - m]? with
          | none => rw [hf] at hb; cases hb
          | some y => rw [hf] at hb; simp at hb; exact hb.symm
      · have := List.getElem?_eq_none_iff.1 hb
        simp at this
        rw [if_neg (by omega), List.getElem?_eq_none (by omega)]
    · show b < acc.length ↔ _
      rw [hlen]

def st0 (n : Nat) (args : List V1) (bl : List Blk) : St := { tmps := args.map .one ++ List.replicate (n - args.length) .dead, heap := bl.map some }

theorem VsR.at_ {E : Env} : ∀ {xs : List V1} {vs : List Value}, VsR E xs vs → ∀ (i : Nat) x, xs[i]? = some x → ∃ v, vs[i]? = some v ∧ V1R E x v
  | [], _, _, i, x, h => by simp at h
  | y :: xs, _, ⟨v, r, e, h1, h2⟩, i, x, h => by
    subst e
    cases i with
    | zero => simp at h; subst h; exact ⟨v, rfl, h1⟩
    | succ i => simpa using h2.at_ i x (by simpa using h)

theorem Sim.start {E : Env} {args : List V1} {bl : List Blk} {vs : Array Value} (n : Nat) (hH : ∀ b, E.H b = bl[b]?) (hU : ∀ b, E.U b ↔ b < bl.length) (ok : HeapOk E) (hv : VsR E args vs.toList) :
    Sim (st0 n args bl) E { tmps := vs ++ Array.replicate (n - vs.size) undef, defers := [] } := by
  have hl : vs.size = args.length := by have := VsR.len hv; simpa using this
  refine ⟨rfl, by simp [st0, hl], fun i x hx => ?_, ok, fun b => ?_, fun b hb => by simpa [st0] using (hU b).1 hb⟩
  · simp only [st0, List.getElem?_append] at hx
    split at hx
    · rename_i hi
      rw [List.getElem?_map] at hx
      cases h : args[i]? with
      | none => rw [h] at hx; cases hx
      | some y =>
        rw [h] at hx
        simp at hx
        subst hx
        obtain ⟨v, h1, h2⟩ := hv.at_ i y h
        have hi : i < vs.size := by simp at hi; omega
        exact ⟨v, by simpa [Array.getElem?_append, hi] using h1, h2⟩
    · rename_i hi
      simp at hi
      rw [List.getElem?_replicate] at hx
      split at hx
      · rename_i hlt
        injection hx with hx
        subst hx
        refine ⟨undef, ?_, trivial⟩
        rw [Array.getElem?_append, if_neg (by omega), Array.getElem?_replicate, if_pos (by simp at hlt; omega)]
      · cases hx
  · rw [hH]
    show _ = (match (bl.map some)[b]? with | some o => o | none => none)
    rw [List.getElem?_map]
    cases bl[b]? <;> rfl

theorem fn_sound {f : FuncId} {fn : Func} {c : Code} (hT : TabOk P T) (hf : P.funcs[f]? = some fn) (hb : fn.body = some c) (s : CSpec)
    (h : ∀ args bl p r upd fresh, s.run args bl = some (p, r, upd, fresh) → (∀ q, p = some q → q) →
      ∃ args', (∀ E vs, HeapOk E → (∀ b, E.H b = bl[b]?) → VsR E args vs → VsR E args' vs) ∧ Does P bl.length c (st0 fn.ntmps args' bl) (EndK P T bl.length fn r upd fresh)) : CSound P f s := by
  intro E0 vs args bl p r upd fresh hH hU hok hvs hrun hp
  obtain ⟨args', h1, h2⟩ := h args bl p r upd fresh hrun hp
  have hm : ∀ b, E0.U b → b < bl.length := fun b hb => (hU b).1 hb
  refine calls_of_wp hf hb (h2 E0 _ E0 _ hm (Sim.start fn.ntmps hH hU hok (h1 E0 _ hok hH hvs)) ⟨frameOf_ok, Ext.refl E0⟩ ?_)
  intro e st' E' a' hk hs' hf'
  have fin : Ends P T bl.length fn r upd fresh st' → a'.defers = [] ∧ ∃ v, (results fn a'.tmps).run P E'.w = .ok v E'.w ∧ ∃ v' E'', Ending.returned v = .returned v' ∧ E''.w = E'.w ∧ Back E0 bl.length r upd fresh v' E'' := by
    intro he
    obtain ⟨v, k1, E'', k2, k3⟩ := Back.of_ends hT hm hs' hf' he
    exact ⟨hs'.defers, v, k1, v, E'', rfl, k2, k3⟩
  cases e with
  | normal => exact fin hk
  | ret => exact fin hk
  | _ => exact hk.elim

-- contracts over pure data

structure Sig where
  ag : Bool
  t : Ty
@[reducible] def Args : List Sig → Type
  | [] => Unit
  | g :: gs => Den g.t × Args gs

def decV (g : Sig) (x : V1) : Option (Den g.t) := match g.ag, x with
  | false, .c c => match decAll (fun _ => none) g.t [c] with
    | some (d, _) => (match cells g.t d with | [_] => some d | _ => none)
    | none => none
  | true, .agg cs => match decAll (fun _ => none) g.t cs with
    | some (d, _) => some d
    | none => none
  | _, _ => none
def canonV (g : Sig) (d : Den g.t) : V1 := match g.ag with
  | true => .agg (cells g.t d)
  | false => match cells g.t d with
    | [c] => .c c
    | cs => .agg cs
def decArgs : (gs : List Sig) → List V1 → Option (Args gs)
  | [], [] => some ()
  | g :: gs, x :: xs => match decV g x with
    | some d => (match decArgs gs xs with | some r => some (d, r) | none => none)
    | none => none
  | _, _ => none
def canonArgs : (gs : List Sig) → Args gs → List V1
  | [], _ => []
  | g :: gs, (a, r) => canonV g a :: canonArgs gs r
def AllArgs : (gs : List Sig) → (Args gs → Prop) → Prop
  | [], p => p ()
  | g :: gs, p => ∀ a : Den g.t, AllArgs gs fun r => p (a, r)
theorem AllArgs.out : ∀ {gs : List Sig} {p : Args gs → Prop}, AllArgs gs p → ∀ x, p x
  | [], _, h, () => h
  | _ :: _, _, h, (a, r) => AllArgs.out (h a) r

theorem decV_rel {E : Env} (hH : HeapOk E) (hn : ∀ b, E.H b = none) {g : Sig} {x : V1} {d : Den g.t} {v : Value} (h : decV g x = some d) (hv : V1R E x v) : V1R E (canonV g d) v := by
  have su : ∀ {us : List Nat} {t : Ty} {x : Den t} {vs : List Value}, CR E.w (SU E us) t x vs → CR E.w E.S t x vs := by
    intro us t x vs hc
    refine hc.mono fun g hg => ⟨?_, rfl⟩
    rcases hg with hg | ⟨u, x, _, hx, _⟩
    · exact hg
    · rw [hn] at hx; cases hx
  have dec : ∀ {cs : List Cell} {vs : List Value} {t : Ty} {d : Den t} {us : List Nat}, decAll (fun _ => none) t cs = some (d, us) → IR E cs vs → IR E (cells t d) vs :=
    fun h hr => (su (decAll_rel hH (fun b x hx => by cases hx) h hr)).items
  unfold decV at h
  unfold canonV
  split at h
  · rename_i c hg
    rw [hg]
    split at h
    · rename_i d' us hd
      split at h
      · rename_i c' hc
        injection h with h
        subst h
        have := dec hd (show IR E [c] [v] from ⟨[v], [], rfl, hv, rfl⟩)
        simp only [hc]
        rw [hc] at this
        obtain ⟨r, s, e, h1, h2⟩ := this
        simp only [IR] at h2
        subst h2
        simp at e
        subst e
        exact h1
      · cases h
    · cases h
  · rename_i cs hg
    rw [hg]
    split at h
    · rename_i d' us hd
      injection h with h
      subst h
      obtain ⟨vals, e, hi⟩ := hv
      exact ⟨vals, e, dec hd hi⟩
    · cases h
  · cases h

theorem decArgs_rel {E : Env} (hH : HeapOk E) (hn : ∀ b, E.H b = none) : ∀ {gs : List Sig} {xs : List V1} {ds : Args gs} {vs : List Value}, decArgs gs xs = some ds → VsR E xs vs → VsR E (canonArgs gs ds) vs
  | [], [], _, _, _, hv => hv
  | g :: gs, x :: xs, ds, _, h, ⟨v, r, e, h1, h2⟩ => by
    unfold decArgs at h
    split at h
    · rename_i d hd
      split at h
      · rename_i rs hr
        injection h with h
        subst h
        exact ⟨v, r, e, decV_rel hH hn hd h1, decArgs_rel hH hn hr h2⟩
      · cases h
    · cases h
  | [], _ :: _, _, _, h, _ => by simp [decArgs] at h
  | _ :: _, [], _, _, h, _ => by simp [decArgs] at h

structure PSpec where
  gs : List Sig
  out : Args gs → Option Prop × AV × List Blk

def PSpec.spec (s : PSpec) : CSpec := { wr := false, run := fun args bl => match bl with
  | [] => match decArgs s.gs args with
    | some xs => some ((s.out xs).1, (s.out xs).2.1, [], (s.out xs).2.2)
    | none => none
  | _ :: _ => none }

def startC (P : Program) (T : Tab) (fn : Func) (args : List V1) (bl : List Blk) (r : AV) (upd : List (Option Blk)) (fresh : List Blk) : Prop := match fn.body with
  | some c => fV1s args fun args => fBlks bl fun bl => fSt (st0 fn.ntmps args bl) fun st => ex P T bl.length c st (EndK P T bl.length fn r upd fresh)
  | none => False

theorem PSpec.sound {f : FuncId} {fn : Func} (hT : TabOk P T) (hP : SpecsOk P T) (hf : P.funcs[f]? = some fn) (hn : (fn.name == "runtime.NumGoroutine") = false) (s : PSpec)
    (h : AllArgs s.gs fun xs => (∀ q, (s.out xs).1 = some q → q) → startC P T fn (canonArgs s.gs xs) [] (s.out xs).2.1 [] (s.out xs).2.2) (hb : fn.body.isSome = true) : CSound P f s.spec ∧ Enters P f := by
  refine ⟨?_, fn, hf, hn, hb⟩
  obtain ⟨c, hc⟩ := Option.isSome_iff_exists.1 hb
  refine fn_sound hT hf hc _ fun args bl p r upd fresh hrun hp => ?_
  unfold PSpec.spec at hrun
  simp only at hrun
  split at hrun
  · split at hrun
    · rename_i xs hxs
      simp only [Option.some.injEq, Prod.mk.injEq] at hrun
      obtain ⟨rfl, rfl, rfl, rfl⟩ := hrun
      refine ⟨_, fun E vs hok hH hv => decArgs_rel hok (fun b => by rw [hH]; simp) hxs hv, ?_⟩
      have := h.out xs hp
      unfold startC at this
      rw [hc] at this
      simp only [fV1s_eq, fBlks_eq, fSt_eq] at this
      exact ex_sound hT hP c this
    · cases hrun
  · cases hrun

end
end Go.Fw

