/- Part 5 of the proof: Fw23 Fw24 Fw25 Fw26 Fw27 Fw28. No statement is handed in here; conditions: none. -/
import Derived.Test.YtofgbclopbmlcaaGreatG4
/- From the body of a function to its contract. -/
namespace Go.Fw
set_option linter.unusedVariables false
set_option linter.unusedSimpArgs false

def resOne (T : Tab) (st : St) : ResultVar → Option AV
  | .tmp t => some (st.tmp t)
  | .cell a t => match loadA T st.look t (st.tmp a) with
    | some r => (match r.pre with | none => some r.val | some _ => none)
    | none => none
def resAll (T : Tab) (st : St) : List ResultVar → Option AV
  | [r] => resOne T st r
  | l => match mapO (resOne T st) l with
    | some vs => (match ones vs with | some xs => some (.tup xs) | none => none)
    | none => none

-- a nil slice in what is handed back becomes one of one's own

def noCs (nm : Nat) : List Cell → Option (List Cell)
  | [] => none
  | c :: cs => match c with
    | .imm (.slice none 0 0) => some (.own nm :: cs)
    | c => match noCs nm cs with | some r => some (c :: r) | none => none
def noV (nm : Nat) : V1 → Option V1
  | .c c => match c with | .imm (.slice none 0 0) => some (.c (.own nm)) | _ => none
  | .agg cs => match noCs nm cs with | some r => some (.agg r) | none => none
def noVs (nm : Nat) : List V1 → Option (List V1)
  | [] => none
  | v :: vs => match noV nm v with
    | some w => some (w :: vs)
    | none => match noVs nm vs with | some r => some (v :: r) | none => none
def noA (nm : Nat) : AV → Option AV
  | .dead => none
  | .one v => match noV nm v with | some w => some (.one w) | none => none
  | .tup l => match noVs nm l with | some w => some (.tup w) | none => none

section
variable {E : Env} {nm : Nat} {t : Ty}
theorem no_cell {v : Value} (h : CellR E (.imm (.slice none 0 0)) [v]) : CellR (nilE E [] nm t) (.own nm) [v] := by
  obtain ⟨e, _⟩ := h
  injection e with e
  subst e
  exact nilE_own E [] nm t
theorem noCs_rel (hx : Ext E (nilE E [] nm t)) : ∀ {cs ds : List Cell} {vs : List Value}, noCs nm cs = some ds → IR E cs vs → IR (nilE E [] nm t) ds vs
  | [], _, _, h, _ => by cases h
  | c :: cs, ds, vs, h, ⟨r, s, e, h1, h2⟩ => by
    unfold noCs at h
    split at h
    · injection h with h
      subst h
      obtain ⟨e2, _⟩ := h1
      subst e2
      exact ⟨_, s, e, nilE_own E [] nm t, h2.ext hx⟩
    · split at h
      · rename_i r' hr'
        injection h with h
        subst h
        exact ⟨r, s, e, h1.ext hx, noCs_rel hx hr' h2⟩
      · cases h
theorem noV_rel (hx : Ext E (nilE E [] nm t)) {x y : V1} {v : Value} (h : noV nm x = some y) (hv : V1R E x v) : V1R (nilE E [] nm t) y v := by
  unfold noV at h
  split at h
  · split at h
    · injection h with h
      subst h
      exact no_cell hv
    · cases h
  · split at h
    · rename_i r hr
      injection h with h
      subst h
      obtain ⟨vals, e, hi⟩ := hv
      exact ⟨vals, e, noCs_rel hx hr hi⟩
    · cases h
theorem noVs_rel (hx : Ext E (nilE E [] nm t)) : ∀ {xs ys : List V1} {vs : List Value}, noVs nm xs = some ys → VsR E xs vs → VsR (nilE E [] nm t) ys vs
  | [], _, _, h, _ => by cases h
  | x :: xs, ys, vs, h, ⟨v, r, e, h1, h2⟩ => by
    unfold noVs at h
    split at h
    · rename_i w hw
      injection h with h
      subst h
      exact ⟨v, r, e, noV_rel hx hw h1, h2.ext hx⟩
    · split at h
      · rename_i r' hr'
        injection h with h
        subst h
        exact ⟨v, r, e, h1.ext hx, noVs_rel hx hr' h2⟩
      · cases h
theorem noA_rel (hx : Ext E (nilE E [] nm t)) {x y : AV} {v : Value} (h : noA nm x = some y) (hv : AVR E x v) : AVR (nilE E [] nm t) y v := by
  unfold noA at h
  split at h
  · cases h
  · split at h
    · rename_i w hw
      injection h with h
      subst h
      exact noV_rel hx hw hv
    · cases h
  · split at h
    · rename_i w hw
      injection h with h
      subst h
      obtain ⟨vs, e, hi⟩ := hv
      exact ⟨vs, e, noVs_rel hx hw hi⟩
    · cases h
theorem Back.nil {E0 : Env} {m : Nat} {r r' : AV} {upd : List (Option Blk)} {fresh : List Blk} {v : Value} (h : Back E0 m r' upd fresh v E) (t : Ty) (hr : noA (m + fresh.length) r' = some r) :
    Back E0 m r upd (fresh ++ [.arr t []]) v (nilE E [] (m + fresh.length) t) := by
  have hU : ¬ E.U (m + fresh.length) := fun hu => by have := (h.U _).1 hu; omega
  have st : Step E { pre := none, val := .dead, add := [.arr t []], set := [] } (m + fresh.length) (nilE E [] (m + fresh.length) t) := Step.nil (us := []) h.ok rfl rfl hU
  refine ⟨noA_rel st.ext hr h.val, st.ok, fun b => ?_, fun b => ?_, h.ext.trans st.ext, st.fr _ h.fr⟩
  · show (if b = m + fresh.length then some (Blk.arr t []) else if b ∈ ([] : List Nat) then none else E.H b) = _
    rw [if_neg (List.not_mem_nil), h.H b]
    by_cases h1 : b = m + fresh.length
    · subst h1
      rw [if_pos rfl, if_neg (by omega), List.getElem?_append_right (by omega)]
      simp
    · rw [if_neg h1]
      by_cases h2 : b < m
      · rw [if_pos h2, if_pos h2]
      · rw [if_neg h2, if_neg h2]
        by_cases h3 : b - m < fresh.length
        · rw [List.getElem?_append_left h3]
        · rw [List.getElem?_append_right (by omega), List.getElem?_eq_none (by omega), List.getElem?_eq_none (by simp; omega)]
  · show E.U b ∨ b = m + fresh.length ↔ _
    rw [h.U b, List.length_append, List.length_singleton]
    omega
end

inductive Ends (P : Program) (T : Tab) (m : Nat) (fn : Func) : AV → List (Option Blk) → List Blk → St → Prop where
  | mk {r : AV} {upd : List (Option Blk)} {fresh : List Blk} {st : St} (us acc : List Nat) (v : AV) (hr : resAll T st fn.results.toList = some v) (c1 : chkAcc m acc = true) (c2 : chkH st.look us acc acc = true)
      (c3 : inN acc (fzA st.look us v).names = true) (hu : Nat.beq upd.length m = true) (hh : wkH st.look us acc = upd ++ fresh.map some) (he : (fzA st.look us v).rn (idx acc) = r) : Ends P T m fn r upd fresh st
  | le {r : AV} {upd : List (Option Blk)} {fresh : List Blk} {st st' : St} (h : Le m st st') (h2 : Ends P T m fn r upd fresh st') : Ends P T m fn r upd fresh st
  | nil {r : AV} {upd : List (Option Blk)} {fresh : List Blk} {st : St} (t : Ty) (r' : AV) (fresh' : List Blk) (h : Ends P T m fn r' upd fresh' st) (hr : noA (m + fresh'.length) r' = some r) (hf : fresh' ++ [.arr t []] = fresh) : Ends P T m fn r upd fresh st

def EndK (P : Program) (T : Tab) (m : Nat) (fn : Func) (r : AV) (upd : List (Option Blk)) (fresh : List Blk) : Cont := fun e st => match e with
  | .normal => Ends P T m fn r upd fresh st
  | .ret => Ends P T m fn r upd fresh st
  | _ => False

section
variable {P : Program} {T : Tab}

def resRun (tmps : Array Value) : ResultVar → Sem Value
  | .tmp t => pure (tmps.getD t undef)
  | .cell p t => do loadVar t (← asAddr (tmps.getD p undef))
theorem results_eq (fn : Func) (tmps : Array Value) : results fn tmps = (do let vs ← fn.results.mapM (resRun tmps); pure (if h : vs.size = 1 then vs[0] else .tuple vs)) := by
  unfold results
  congr 1

theorem mapM_run {α : Type} (P : Program) (w : World) (f : α → Sem Value) : ∀ (l : List α) (vs : List Value), (∀ (i : Nat) x, l[i]? = some x → ∃ v, vs[i]? = some v ∧ (f x).run P w = .ok v w) → l.length = vs.length → (l.mapM f).run P w = .ok vs w
  | [], [], _, _ => by simp
  | x :: l, v :: vs, h, hl => by
    obtain ⟨v', h1, h2⟩ := h 0 x rfl
    simp at h1
    subst h1
    have := mapM_run P w f l vs (fun i y hy => h (i + 1) y (by simpa using hy)) (by simpa using hl)
    simp [List.mapM_cons, h2, this]
  | [], _ :: _, _, hl => by simp at hl
  | _ :: _, [], _, hl => by simp at hl

theorem resOne_run (hT : TabOk P T) {st : St} {E : Env} {a : Act} (hs : Sim st E a) {r : ResultVar} {x : AV} (h : resOne T st r = some x) :
    ∃ v, (resRun a.tmps r).run P E.w = .ok v E.w ∧ AVR E x v := by
  cases r with
  | tmp t =>
    simp only [resOne, Option.some.injEq] at h
    subst h
    exact ⟨_, by simp [resRun], hs.at_ t⟩
  | cell p t =>
    simp only [resOne] at h
    split at h
    · rename_i r hr
      split at h
      · rename_i hp
        injection h with h
        subst h
        obtain ⟨v, h1, h2, _, _⟩ := load_run hT hs.ok (fun b x hb => (hs.H b).trans hb) (hs.at_ p) hr (fun q hq => by rw [hp] at hq; cases hq)
        refine ⟨v, ?_, h2⟩
        unfold resRun
        simp only
        generalize a.tmps.getD p undef = va at h1 ⊢
        have hva : (∃ ad, va = .pointer (some ad)) ∨ ¬ ∃ ad, va = .pointer (some ad) := Classical.em _
        rcases hva with ⟨ad, rfl⟩ | hn
        · simpa [Instr.loadAt, Instr.sureAddr, asAddr] using h1
        · exfalso
          have : (Instr.sureAddr va) = stuck "an address expected (no nilCheck in front?)" := by
            unfold Instr.sureAddr
            split
            · exact absurd ⟨_, rfl⟩ hn
            · rfl
          simp [Instr.loadAt, this, stuck] at h1
      · cases h
    · cases h

theorem VsR.mk {E : Env} : ∀ {xs : List V1} {vs : List Value}, xs.length = vs.length → (∀ (i : Nat) x v, xs[i]? = some x → vs[i]? = some v → V1R E x v) → VsR E xs vs
  | [], [], _, _ => rfl
  | x :: xs, v :: vs, hl, h => ⟨v, vs, rfl, h 0 x v rfl rfl, VsR.mk (by simpa using hl) fun i y u hy hu => h (i + 1) y u (by simpa using hy) (by simpa using hu)⟩
  | [], _ :: _, hl, _ => by simp at hl
  | _ :: _, [], hl, _ => by simp at hl

theorem ones_at : ∀ {l : List AV} {xs : List V1}, ones l = some xs → l.length = xs.length ∧ ∀ (i : Nat) x, xs[i]? = some x → l[i]? = some (.one x)
  | [], xs, h => by simp [ones] at h; subst h; exact ⟨rfl, fun i x hx => by simp at hx⟩
  | a :: l, xs, h => by
    unfold ones at h
    split at h
    · rename_i h1 h2; cases h2
    · rename_i x r hx
      split at h
      · rename_i ys hys
        injection h with h
        subst h
        injection hx with e1 e2
        subst e1; subst e2
        obtain ⟨h3, h4⟩ := ones_at hys
        refine ⟨by simp [h3], fun i z hz => ?_⟩
        cases i with
        | zero => simp at hz; subst hz; rfl
        | succ i => simpa using h4 i z (by simpa using hz)
      · cases h
    · cases h

theorem resAll_run (hT : TabOk P T) {st : St} {E : Env} {a : Act} (hs : Sim st E a) {fn : Func} {x : AV} (h : resAll T st fn.results.toList = some x) : ∃ v, (results fn a.tmps).run P E.w = .ok v E.w ∧ AVR E x v := by
  have gen : ∀ (l : List ResultVar) (vs : List AV), mapO (resOne T st) l = some vs → ∃ us : List Value, us.length = l.length ∧ (∀ (i : Nat) y u, vs[i]? = some y → us[i]? = some u → AVR E y u) ∧
      (l.mapM (resRun a.tmps)).run P E.w = .ok us E.w := by
    intro l vs hm
    obtain ⟨h1, h2⟩ := mapO_some hm
    have : ∀ (l : List ResultVar) (vs : List AV), vs.length = l.length → (∀ (i : Nat) r, l[i]? = some r → ∃ y, resOne T st r = some y ∧ vs[i]? = some y) → ∃ us : List Value, us.length = l.length ∧ (∀ (i : Nat) y u, vs[i]? = some y → us[i]? = some u → AVR E y u) ∧
        ∀ (i : Nat) r, l[i]? = some r → ∃ u, us[i]? = some u ∧ (resRun a.tmps r).run P E.w = .ok u E.w := by
      intro l
      induction l with
      | nil => intro vs _ _; exact ⟨[], rfl, fun i y u _ hu => by simp at hu, fun i r hr => by simp at hr⟩
      | cons r l ih =>
        intro vs hl h
        cases vs with
        | nil => simp at hl
        | cons y vs =>
          obtain ⟨us, e1, e2, e3⟩ := ih vs (by simpa using hl) (fun i r hr => by simpa using h (i + 1) r (by simpa using hr))
          obtain ⟨y', hy, hy'⟩ := h 0 r rfl
          simp at hy'
          subst hy'
          obtain ⟨v, hv1, hv2⟩ := resOne_run hT hs hy
          refine ⟨v :: us, by simp [e1], fun i z u hz hu => ?_, fun i r' hr' => ?_⟩
          · cases i with
            | zero => simp at hz hu; subst hz; subst hu; exact hv2
            | succ i => exact e2 i z u (by simpa using hz) (by simpa using hu)
          · cases i with
            | zero => simp at hr'; subst hr'; exact ⟨v, rfl, hv1⟩
            | succ i => simpa using e3 i r' (by simpa using hr')
    obtain ⟨us, e1, e2, e3⟩ := this l vs h1 h2
    exact ⟨us, e1, e2, mapM_run P E.w _ l us e3 e1.symm⟩
  have run : ∀ us : List Value, (fn.results.toList.mapM (resRun a.tmps)).run P E.w = .ok us E.w →
      (results fn a.tmps).run P E.w = .ok (if h : us.toArray.size = 1 then us.toArray[0] else .tuple us.toArray) E.w := by
    intro us hu
    rw [results_eq, Array.mapM_eq_mapM_toList]
    simp [-Array.getD_eq_getD_getElem?, hu]
  unfold resAll at h
  split at h
  · rename_i r hl
    obtain ⟨v, h1, h2⟩ := resOne_run hT hs h
    refine ⟨v, ?_, h2⟩
    have := run [v] (by rw [hl]; exact mapM_run P E.w _ [r] [v] (fun i x hx => by
      cases i with
      | zero => simp at hx; subst hx; exact ⟨v, rfl, h1⟩
      | succ i => simp at hx) rfl)
    simpa using this
  · rename_i hl
    split at h
    · rename_i vs hm
      split at h
      · rename_i xs ho
        injection h with h
        subst h
        obtain ⟨us, e1, e2, e3⟩ := gen _ _ hm
        obtain ⟨o1, o2⟩ := ones_at ho
        have hlen : us.length ≠ 1 := by
          intro hu
          rw [e1] at hu
          match hr : fn.results.toList, hu with
          | [r], _ => exact hl r hr
        refine ⟨_, run us e3, ?_⟩
        rw [dif_neg (by simpa using hlen)]
        refine ⟨us.toArray, rfl, VsR.mk ?_ fun i x v hx hv => ?_⟩
        · have := (mapO_some hm).1
          simp only [List.size_toArray]
          show xs.length = us.length
          omega
        · exact e2 i _ v (o2 i x hx) (by simpa using hv)
      · cases h
    · cases h

theorem Back.of_ends {m : Nat} {E0 E : Env} {a : Act} {st : St} {fn : Func} {r : AV} {upd : List (Option Blk)} {fresh : List Blk} (hT : TabOk P T) (hm : ∀ b, E0.U b → b < m) (hs : Sim st E a) (hf : Fr E0 E)
    (h : Ends P T m fn r upd fresh st) : ∃ v, (results fn a.tmps).run P E.w = .ok v E.w ∧ ∃ E', E'.w = E.w ∧ Back E0 m r upd fresh v E' := by
  induction h generalizing E with
  | nil t r' fresh' _ hr he ih =>
    obtain ⟨v, k1, E2, k2, k3⟩ := ih hs hf
    subst he
    exact ⟨v, k1, nilE E2 [] _ t, k2, Back.nil k3 t hr⟩
  | le hle _ ih =>
    obtain ⟨E1, e1, s1, f1⟩ := hle E0 E a hm hs hf
    obtain ⟨v, k1, E2, k2, k3⟩ := ih s1 f1
    rw [e1] at k1 k2
    exact ⟨v, k1, E2, k2, k3⟩
  | @mk r upd fresh st us acc x hr c1 c2 c3 hu hh he =>
    obtain ⟨v, h1, h2⟩ := resAll_run hT hs hr
    obtain ⟨k1, k2, k3⟩ := weak hm hs.ok hs.H hf c1 c2
    have hu := Nat.eq_of_beq_eq_true hu
    have hlen : acc.length = m + fresh.length := by
      have := congrArg List.length hh
      simp [wkH] at this
      omega
    refine ⟨v, h1, weakE E _ us acc, rfl, he ▸ k3 x v c3 h2, k1, fun b => ?_, fun b => ?_, k2.ext, k2.fr⟩
    · show (match (wkH _ us acc)[b]? with | some x => x | none => none) = _
      rw [hh]
      split <;> rename_i hb
      · split
        · rename_i hlt
          rw [List.getElem?_append_left (by omega)] at hb
          rw [hb]; rfl
        · rename_i hlt
          rw [List.getElem?_append_right (by omega), hu, List.getElem?_map] at hb
          cases hf : fresh[b - m]? with
          | none => rw [hf] at hb; cases hb
          | some y => rw [hf] at hb; simp at hb; exact hb.symm
      · have := List.getElem?_eq_none_iff.1 hb
        simp at this
        rw [if_neg (by omega), List.getElem?_eq_none (by omega)]
    · show b < acc.length ↔ _
      rw [hlen]

def st0 (n : Nat) (args : List V1) (bl : List Blk) : St := { tmps := args.map .one ++ List.replicate (n - args.length) .dead, heap := bl.map some }

theorem VsR.at_ {E : Env} : ∀ {xs : List V1} {vs : List Value}, VsR E xs vs → ∀ (i : Nat) x, xs[i]? = some x → ∃ v, vs[i]? = some v ∧ V1R E x v
  | [], _, _, i, x, h => by simp at h
  | y :: xs, _, ⟨v, r, e, h1, h2⟩, i, x, h => by
    subst e
    cases i with
    | zero => simp at h; subst h; exact ⟨v, rfl, h1⟩
    | succ i => simpa using h2.at_ i x (by simpa using h)

theorem Sim.start {E : Env} {args : List V1} {bl : List Blk} {vs : Array Value} (n : Nat) (hH : ∀ b, E.H b = bl[b]?) (hU : ∀ b, E.U b ↔ b < bl.length) (ok : HeapOk E) (hv : VsR E args vs.toList) :
    Sim (st0 n args bl) E { tmps := vs ++ Array.replicate (n - vs.size) undef, defers := [] } := by
  have hl : vs.size = args.length := by have := VsR.len hv; simpa using this
  refine ⟨rfl, by simp [st0, hl], fun i x hx => ?_, ok, fun b => ?_, fun b hb => by simpa [st0] using (hU b).1 hb⟩
  · simp only [st0, List.getElem?_append] at hx
    split at hx
    · rename_i hi
      rw [List.getElem?_map] at hx
      cases h : args[i]? with
      | none => rw [h] at hx; cases hx
      | some y =>
        rw [h] at hx
        simp at hx
        subst hx
        obtain ⟨v, h1, h2⟩ := hv.at_ i y h
        have hi : i < vs.size := by simp at hi; omega
        exact ⟨v, by simpa [Array.getElem?_append, hi] using h1, h2⟩
    · rename_i hi
      simp at hi
      rw [List.getElem?_replicate] at hx
      split at hx
      · rename_i hlt
        injection hx with hx
        subst hx
        refine ⟨undef, ?_, trivial⟩
        rw [Array.getElem?_append, if_neg (by omega), Array.getElem?_replicate, if_pos (by simp at hlt; omega)]
      · cases hx
  · rw [hH]
    show _ = (match (bl.map some)[b]? with | some o => o | none => none)
    rw [List.getElem?_map]
    cases bl[b]? <;> rfl

theorem fn_sound {f : FuncId} {fn : Func} {c : Code} (hT : TabOk P T) (hf : P.funcs[f]? = some fn) (hb : fn.body = some c) (s : CSpec)
    (h : ∀ args bl p r upd fresh, s.run args bl = some (p, r, upd, fresh) → (∀ q, p = some q → q) →
      ∃ args', (∀ E vs, HeapOk E → (∀ b, E.H b = bl[b]?) → VsR E args vs → VsR E args' vs) ∧ Does P bl.length c (st0 fn.ntmps args' bl) (EndK P T bl.length fn r upd fresh)) : CSound P f s := by
  intro E0 vs args bl p r upd fresh hH hU hok hvs hrun hp
  obtain ⟨args', h1, h2⟩ := h args bl p r upd fresh hrun hp
  have hm : ∀ b, E0.U b → b < bl.length := fun b hb => (hU b).1 hb
  refine calls_of_wp hf hb (h2 E0 _ E0 _ hm (Sim.start fn.ntmps hH hU hok (h1 E0 _ hok hH hvs)) ⟨frameOf_ok, Ext.refl E0⟩ ?_)
  intro e st' E' a' hk hs' hf'
  have fin : Ends P T bl.length fn r upd fresh st' → a'.defers = [] ∧ ∃ v, (results fn a'.tmps).run P E'.w = .ok v E'.w ∧ ∃ v' E'', Ending.returned v = .returned v' ∧ E''.w = E'.w ∧ Back E0 bl.length r upd fresh v' E'' := by
    intro he
    obtain ⟨v, k1, E'', k2, k3⟩ := Back.of_ends hT hm hs' hf' he
    exact ⟨hs'.defers, v, k1, v, E'', rfl, k2, k3⟩
  cases e with
  | normal => exact fin hk
  | ret => exact fin hk
  | _ => exact hk.elim

-- contracts over pure data

structure Sig where
  ag : Bool
  t : Ty
@[reducible] def Args : List Sig → Type
  | [] => Unit
  | g :: gs => Den g.t × Args gs

def decV (g : Sig) (x : V1) : Option (Den g.t) := match g.ag, x with
  | false, .c c => match decAll (fun _ => none) g.t [c] with
    | some (d, _) => (match cells g.t d with | [_] => some d | _ => none)
    | none => none
  | true, .agg cs => match decAll (fun _ => none) g.t cs with
    | some (d, _) => some d
    | none => none
  | _, _ => none
def canonV (g : Sig) (d : Den g.t) : V1 := match g.ag with
  | true => .agg (cells g.t d)
  | false => match cells g.t d with
    | [c] => .c c
    | cs => .agg cs
def decArgs : (gs : List Sig) → List V1 → Option (Args gs)
  | [], [] => some ()
  | g :: gs, x :: xs => match decV g x with
    | some d => (match decArgs gs xs with | some r => some (d, r) | none => none)
    | none => none
  | _, _ => none
def canonArgs : (gs : List Sig) → Args gs → List V1
  | [], _ => []
  | g :: gs, (a, r) => canonV g a :: canonArgs gs r
def AllArgs : (gs : List Sig) → (Args gs → Prop) → Prop
  | [], p => p ()
  | g :: gs, p => ∀ a : Den g.t, AllArgs gs fun r => p (a, r)
theorem AllArgs.out : ∀ {gs : List Sig} {p : Args gs → Prop}, AllArgs gs p → ∀ x, p x
  | [], _, h, () => h
  | _ :: _, _, h, (a, r) => AllArgs.out (h a) r

theorem decV_rel {E : Env} (hH : HeapOk E) (hn : ∀ b, E.H b = none) {g : Sig} {x : V1} {d : Den g.t} {v : Value} (h : decV g x = some d) (hv : V1R E x v) : V1R E (canonV g d) v := by
  have su : ∀ {us : List Nat} {t : Ty} {x : Den t} {vs : List Value}, CR E.w (SU E us) t x vs → CR E.w E.S t x vs := by
    intro us t x vs hc
    refine hc.mono fun g hg => ⟨?_, rfl⟩
    rcases hg with hg | ⟨u, x, _, hx, _⟩
    · exact hg
    · rw [hn] at hx; cases hx
  have dec : ∀ {cs : List Cell} {vs : List Value} {t : Ty} {d : Den t} {us : List Nat}, decAll (fun _ => none) t cs = some (d, us) → IR E cs vs → IR E (cells t d) vs :=
    fun h hr => (su (decAll_rel hH (fun b x hx => by cases hx) h hr)).items
  unfold decV at h
  unfold canonV
  split at h
  · rename_i c hg
    rw [hg]
    split at h
    · rename_i d' us hd
      split at h
      · rename_i c' hc
        injection h with h
        subst h
        have := dec hd (show IR E [c] [v] from ⟨[v], [], rfl, hv, rfl⟩)
        simp only [hc]
        rw [hc] at this
        obtain ⟨r, s, e, h1, h2⟩ := this
        simp only [IR] at h2
        subst h2
        simp at e
        subst e
        exact h1
      · cases h
    · cases h
  · rename_i cs hg
    rw [hg]
    split at h
    · rename_i d' us hd
      injection h with h
      subst h
      obtain ⟨vals, e, hi⟩ := hv
      exact ⟨vals, e, dec hd hi⟩
    · cases h
  · cases h

theorem decArgs_rel {E : Env} (hH : HeapOk E) (hn : ∀ b, E.H b = none) : ∀ {gs : List Sig} {xs : List V1} {ds : Args gs} {vs : List Value}, decArgs gs xs = some ds → VsR E xs vs → VsR E (canonArgs gs ds) vs
  | [], [], _, _, _, hv => hv
  | g :: gs, x :: xs, ds, _, h, ⟨v, r, e, h1, h2⟩ => by
    unfold decArgs at h
    split at h
    · rename_i d hd
      split at h
      · rename_i rs hr
        injection h with h
        subst h
        exact ⟨v, r, e, decV_rel hH hn hd h1, decArgs_rel hH hn hr h2⟩
      · cases h
    · cases h
  | [], _ :: _, _, _, h, _ => by simp [decArgs] at h
  | _ :: _, [], _, _, h, _ => by simp [decArgs] at h

structure PSpec where
  gs : List Sig
  out : Args gs → Option Prop × AV × List Blk

def PSpec.spec (s : PSpec) : CSpec := { wr := false, run := fun args bl => match bl with
  | [] => match decArgs s.gs args with
    | some xs => some ((s.out xs).1, (s.out xs).2.1, [], (s.out xs).2.2)
    | none => none
  | _ :: _ => none }

def startC (P : Program) (T : Tab) (fn : Func) (args : List V1) (bl : List Blk) (r : AV) (upd : List (Option Blk)) (fresh : List Blk) : Prop := match fn.body with
  | some c => fV1s args fun args => fBlks bl fun bl => fSt (st0 fn.ntmps args bl) fun st => ex P T bl.length c st (EndK P T bl.length fn r upd fresh)
  | none => False

theorem PSpec.sound {f : FuncId} {fn : Func} (hT : TabOk P T) (hP : SpecsOk P T) (hf : P.funcs[f]? = some fn) (hn : (fn.name == "runtime.NumGoroutine") = false) (s : PSpec)
    (h : AllArgs s.gs fun xs => (∀ q, (s.out xs).1 = some q → q) → startC P T fn (canonArgs s.gs xs) [] (s.out xs).2.1 [] (s.out xs).2.2) (hb : fn.body.isSome = true) : CSound P f s.spec ∧ Enters P f := by
  refine ⟨?_, fn, hf, hn, hb⟩
  obtain ⟨c, hc⟩ := Option.isSome_iff_exists.1 hb
  refine fn_sound hT hf hc _ fun args bl p r upd fresh hrun hp => ?_
  unfold PSpec.spec at hrun
  simp only at hrun
  split at hrun
  · split at hrun
    · rename_i xs hxs
      simp only [Option.some.injEq, Prod.mk.injEq] at hrun
      obtain ⟨rfl, rfl, rfl, rfl⟩ := hrun
      refine ⟨_, fun E vs hok hH hv => decArgs_rel hok (fun b => by rw [hH]; simp) hxs hv, ?_⟩
      have := h.out xs hp
      unfold startC at this
      rw [hc] at this
      simp only [fV1s_eq, fBlks_eq, fSt_eq] at this
      exact ex_sound hT hP c this
    · cases hrun
  · cases hrun

end
end Go.Fw

/- Regions whose order is drawn: each operation is run on what is surely there. -/
namespace Go.Fw
set_option linter.unusedVariables false
set_option linter.unusedSimpArgs false

-- who comes before whom

def orB : List Bool → List Bool → List Bool
  | [], l => l
  | a :: x, [] => a :: x
  | a :: x, b :: y => (match a with | true => true | false => b) :: orB x y
def oneB : Nat → List Bool
  | 0 => [true]
  | j + 1 => false :: oneB j
def getB : List Bool → Nat → Bool
  | [], _ => false
  | b :: _, 0 => b
  | _ :: r, n + 1 => getB r n
def getL : List (List Bool) → Nat → List Bool
  | [], _ => []
  | b :: _, 0 => b
  | _ :: r, n + 1 => getL r n
def ancOf (As : List (List Bool)) : List Edge → List Bool
  | [] => []
  | e :: r => match Region.binds .any e with
    | true => orB (orB (oneB e.on) (getL As e.on)) (ancOf As r)
    | false => ancOf As r
def fBools : List Bool → (List Bool → Prop) → Prop
  | [], k => k []
  | true :: cs, k => fBools cs fun cs => k (true :: cs)
  | false :: cs, k => fBools cs fun cs => k (false :: cs)
def withAncs : List Oper → List (List Bool) → (List (List Bool) → Prop) → Prop
  | [], As, K => K As
  | o :: r, As, K => fBools (ancOf As o.after.toList) fun A => fL (As ++ [A]) fun As => withAncs r As K

/-- which blocks an operation may change: none, any, or those of a list -/
inductive W1 where
  | no | any | only (l : List Nat)
def mayW : W1 → Nat → Bool
  | .no, _ => false
  | .any, _ => true
  | .only l, b => memN b l
def getW : List W1 → Nat → W1
  | [], _ => .no
  | b :: _, 0 => b
  | _ :: r, n + 1 => getW r n
def fW : W1 → (W1 → Prop) → Prop
  | .no, k => k .no
  | .any, k => k .any
  | .only l, k => fNats l fun l => k (.only l)
def fWs : List W1 → (List W1 → Prop) → Prop
  | [], k => k []
  | c :: cs, k => fW c fun c => fWs cs fun cs => k (c :: cs)
/-- the last one that writes a slot, of those behind (the nearest first), and what lies behind it -/
def defOf (t : Tmp) : List Oper → Option (Op × List Oper)
  | [] => none
  | o :: os => match o.dst with
    | some d => (match Nat.beq d t with | true => some (o.op, os) | false => defOf t os)
    | none => defOf t os
/-- names that a region may still give -/
def freshNs : Nat → Nat → List Nat
  | _, 0 => []
  | a, n + 1 => a :: freshNs (a + 1) n
/-- the block that an address is in, as far as the text tells (checked when the operation is run) -/
def baseOf (st : St) : Nat → List Oper → Operand → W1
  | 0, _, _ => .any
  | f + 1, ops, x => match x with
    | .tmp t => match defOf t ops with
      | some (.fieldAddr _ y _, os) => baseOf st f os y
      | some (.indexAddr _ y _, os) => baseOf st f os y
      | some (.move y, os) => baseOf st f os y
      | some (.assign y, os) => baseOf st f os y
      | some (.binOp .., _) => .only []
      | some (.buildSlice .., _) => .only (freshNs st.heap.length 24)
      | some (.call c, _) => (match c.callee with | .builtin b => (match b with | .len => .only [] | .max => .only [] | .min => .only [] | _ => .any) | _ => .any)
      | some _ => .any
      | none => match st.tmp t with
        | .one (.c (.ptr b _)) => .only [b]
        | .one (.c (.pel b _ _)) => .only [b]
        | .one (.c (.pidx b _ _)) => .only [b]
        | .one (.c (.own b)) => .only [b]
        | .one (.c (.sub b _ _)) => .only [b]
        | .one (.c (.svar b _ _)) => .only [b]
        | .one (.c (.map b)) => .only [b]
        | .one (.c (.imm _)) => .only []
        | .one (.c (.ro _ _)) => .only []
        | _ => .any
    | _ => .only []
/-- the blocks that a call may change, as far as the text tells: what its arguments reach -/
def argsW (st : St) (ops : List Oper) : List Operand → Option (List Nat)
  | [] => some []
  | a :: r => match baseOf st 6 ops a with
    | .only l => (match argsW st ops r with | some m => some (l ++ m) | none => none)
    | _ => none
def callW (st : St) (ops : List Oper) (args : List Operand) : W1 := match argsW st ops args with
  | some l => (match reach st.look 100 l [] with | some acc => .only acc | none => .any)
  | none => .any
/-- what append may change: what its first argument reaches, or the slice that the region itself makes -/
def appW (st : St) (ops : List Oper) (args : List Operand) : W1 := match callW st ops (args.take 1) with
  | .any => (match args with | a :: _ => baseOf st 6 ops a | [] => .any)
  | w => w
/-- the function that a called value is, as far as the text tells, and the blocks that it holds on to -/
def calleeOf (st : St) : Nat → List Oper → Operand → Option (FuncId × List Nat)
  | 0, _, _ => none
  | f + 1, ops, x => match x with
    | .func g => some (g, [])
    | .tmp t => match defOf t ops with
      | some (.move y, os) => calleeOf st f os y
      | some (.assign y, os) => calleeOf st f os y
      | some _ => none
      | none => match st.tmp t with
        | .one (.c (.fn g caps)) => some (g, caps)
        | _ => none
    | _ => none
def callV (st : St) (ops : List Oper) (args : List Operand) (caps : List Nat) : W1 := match argsW st ops args with
  | some l => (match reach st.look 100 (l ++ caps) [] with | some acc => .only acc | none => .any)
  | none => .any
/-- elements that hold slices make data of blocks of their own -/
def sliceW (T : Tab) (st : St) (t : TypeId) : W1 := match etyOf T t with
  | some (u, _) => (match u.flat with | true => .no | false => .only (freshNs st.heap.length 24))
  | none => .no
def effO (T : Tab) (st : St) (ops : List Oper) (o : Oper) : W1 := match o.op with
  | .store _ a _ => baseOf st 6 ops a
  | .mapUpdate _ m _ _ => baseOf st 6 ops m
  | .insert _ m _ _ => baseOf st 6 ops m
  | .buildSlice t _ _ => sliceW T st t
  | .call c => match c.callee with
    | .builtin b => (match b with | .append => appW st ops c.args.toList | .copy => callW st ops (c.args.toList.take 1) | _ => .no)
    | .value f => (match calleeOf st 6 ops f with | some (g, caps) => (match T.fn g with | some s => (match s.wr with | true => callV st ops c.args.toList caps | false => .no) | none => .any) | none => .any)
    | _ => .any
  | _ => .no
def effs (T : Tab) (st : St) (ops : List Oper) : List Oper → List W1
  | [] => []
  | o :: r => effO T st ops o :: effs T st (o :: ops) r

/-- what those may change that aren't bound to come before or after -/
def incL (i : Nat) : List W1 → List (List Bool) → List Bool → List Nat → List W1
  | e :: es, As, A, k :: ks => match e with
    | .no => incL i es (As.drop 1) (A.drop 1) ks
    | e => match Nat.beq k i with
      | true => incL i es (As.drop 1) (A.drop 1) ks
      | false => match getB A 0 with
        | true => incL i es (As.drop 1) (A.drop 1) ks
        | false => match getB (getL As 0) i with
          | true => incL i es (As.drop 1) (A.drop 1) ks
          | false => e :: incL i es (As.drop 1) (A.drop 1) ks
  | [], _, _, _ => []
  | _ :: _, _, _, [] => [.any]
def anyW : List W1 → Nat → Bool
  | [], _ => false
  | c :: r, b => match mayW c b with | true => true | false => anyW r b
def setsOk (e : W1) : List (Nat × Option Blk) → Bool
  | [] => true
  | (n, _) :: r => match mayW e n with | true => setsOk e r | false => false
/-- is the slot written by one that isn't surely before or after? -/
def hideT (i : Nat) (t : Tmp) : List Oper → List (List Bool) → List Bool → List Nat → Bool
  | o :: os, As, A, k :: ks => match o.dst with
    | some d => match Nat.beq d t with
      | true => match getB A 0 with
        | true => hideT i t os (As.drop 1) (A.drop 1) ks
        | false => match getB (getL As 0) i with
          | true => hideT i t os (As.drop 1) (A.drop 1) ks
          | false => match Nat.beq k i with
            | true => hideT i t os (As.drop 1) (A.drop 1) ks
            | false => true
      | false => hideT i t os (As.drop 1) (A.drop 1) ks
    | none => hideT i t os (As.drop 1) (A.drop 1) ks
  | [], _, _, _ => false
  | _ :: _, _, _, [] => true
def hideB (inc : List W1) (A : List Bool) (b : Nat) : List (Nat × Nat × Nat) → Bool
  | [] => anyW inc b
  | (k, n, c) :: r => match Nat.ble n b && Nat.blt b (n + c) with
    | true => (match getB A k with | true => hideB inc A b r | false => true)
    | false => hideB inc A b r
def setsSeen (lk : Nat → Option Blk) : List (Nat × Option Blk) → Bool
  | [] => true
  | (n, _) :: r => match lk n with | none => false | some _ => setsSeen lk r
def ownAdd (own : List (Nat × Nat × Nat)) (i nm : Nat) : List Blk → List (Nat × Nat × Nat)
  | [] => own
  | b :: r => (i, nm, r.length + 1) :: own
/-- is the operation's own slot written, before it, only by those that are surely before? -/
def dstSeen (i : Nat) (o : Oper) (ops : List Oper) (As : List (List Bool)) (A : List Bool) : Bool := match o.dst with
  | none => true
  | some d => match hideT i d (ops.take i) As A lits with | true => false | false => true
def lenLe : List Bool → Nat → Bool
  | [], _ => true
  | _ :: _, 0 => false
  | _ :: r, n + 1 => lenLe r n

def evHide (st : St) (hide : Tmp → Bool) (x : Operand) : AV := match x with
  | .tmp t => (match hide t with | true => .dead | false => st.tmp t)
  | .const v => constV v
  | .func f => .cell (.fn f [])
  | .global _ => .dead
def lookHide (st : St) (hb : Nat → Bool) (b : Nat) : Option Blk := match hb b with | true => none | false => st.look b

def doM (T : Tab) (o : Oper) (ht : Tmp → Bool) (hb : Nat → Bool) (eff : W1) (nm : Nat) (st : St) (K : St → List Blk → Prop) : Prop :=
  match dstep T (evHide st ht) (lookHide st hb) nm o with
  | some r => need r.pre (fRes r fun v add set => match setsSeen (lookHide st hb) set && setsOk eff set with
    | true => fSt ((st.act nm { pre := none, val := v, add := add, set := set }).put o.dst v) fun st => K st add
    | false => False)
  | none => False

def exM (T : Tab) (ops : Array Oper) (As : List (List Bool)) (efs : List W1) : List Oper → List Nat → List (Nat × Nat × Nat) → St → (St → Prop) → Prop
  | [], _, _, st, K => K st
  | _ :: _, [], _, _, _ => False
  | o :: r, i :: is, own, st, K =>
    match lenLe (getL As i) i && dstSeen i o ops.toList As (getL As i) with
    | false => False
    | true => fWs (incL i efs As (getL As i) lits) fun inc =>
      match guardTmp ops o with
      | none => False
      | some none => withName lits st.heap st.heap.length fun nm =>
        doM T o (fun t => hideT i t ops.toList As (getL As i) lits) (fun b => hideB inc (getL As i) b own) (getW efs i) nm st fun st' add => exM T ops As efs r is (ownAdd own i nm add) st' K
      | some (some (d, want)) => match evHide st (fun t => hideT i t ops.toList As (getL As i) lits) (.tmp d) with
        | .one (.c (.imm (.bool b))) => Br b
          (fSt (st.put (some d) (.cell (bv true))) fun st => match want with
            | true => withName lits st.heap st.heap.length fun nm =>
              doM T o (fun t => hideT i t ops.toList As (getL As i) lits) (fun b => hideB inc (getL As i) b own) (getW efs i) nm st fun st' add => exM T ops As efs r is (ownAdd own i nm add) st' K
            | false => fSt (st.put o.dst (.tup [])) fun st => exM T ops As efs r is own st K)
          (fSt (st.put (some d) (.cell (bv false))) fun st => match want with
            | false => withName lits st.heap st.heap.length fun nm =>
              doM T o (fun t => hideT i t ops.toList As (getL As i) lits) (fun b => hideB inc (getL As i) b own) (getW efs i) nm st fun st' add => exM T ops As efs r is (ownAdd own i nm add) st' K
            | true => fSt (st.put o.dst (.tup [])) fun st => exM T ops As efs r is own st K)
        | .tup [] => fSt (st.put o.dst (.tup [])) fun st => exM T ops As efs r is own st K
        | _ => False

def exD (T : Tab) (ops : Array Oper) (st : St) (K : St → Prop) : Prop :=
  withAncs ops.toList [] fun As => fWs (effs T st [] ops.toList) fun efs => exM T ops As efs ops.toList lits [] st K

theorem fBools_eq : ∀ (l : List Bool) (k : List Bool → Prop), fBools l k = k l
  | [], k => rfl
  | true :: ns, k => by unfold fBools; rw [fBools_eq ns]
  | false :: ns, k => by unfold fBools; rw [fBools_eq ns]
theorem getB_or : ∀ {a b : List Bool} {j : Nat}, getB (orB a b) j = true → getB a j = true ∨ getB b j = true
  | [], _, _, h => .inr h
  | _ :: _, [], _, h => .inl h
  | a :: x, b :: y, 0, h => by cases a <;> simp_all [orB, getB]
  | a :: x, b :: y, j + 1, h => getB_or (a := x) (b := y) (j := j) h
theorem getB_or_l : ∀ {a b : List Bool} {j : Nat}, getB a j = true → getB (orB a b) j = true
  | [], _, _, h => by cases h
  | _ :: _, [], _, h => h
  | a :: x, b :: y, 0, h => by cases a <;> simp_all [orB, getB]
  | a :: x, b :: y, j + 1, h => getB_or_l (a := x) (b := y) (j := j) h
theorem getB_or_r : ∀ {a b : List Bool} {j : Nat}, getB b j = true → getB (orB a b) j = true
  | [], _, _, h => h
  | _ :: _, [], _, h => by cases h
  | a :: x, b :: y, 0, h => by cases a <;> simp_all [orB, getB]
  | a :: x, b :: y, j + 1, h => getB_or_r (a := x) (b := y) (j := j) h
theorem getB_one : ∀ {i j : Nat}, getB (oneB i) j = true ↔ j = i
  | 0, 0 => by simp [oneB, getB]
  | 0, j + 1 => by simp [oneB, getB]
  | i + 1, 0 => by simp [oneB, getB]
  | i + 1, j + 1 => by simp [oneB, getB, getB_one]
theorem lenLe_ok : ∀ {l : List Bool} {i j : Nat}, lenLe l i = true → getB l j = true → j < i
  | [], _, _, _, h => by cases h
  | _ :: _, 0, _, h, _ => by cases h
  | _ :: r, n + 1, 0, _, _ => by omega
  | _ :: r, n + 1, j + 1, h, h' => by have := lenLe_ok (l := r) (i := n) (j := j) h h'; omega
theorem getL_append : ∀ {a b : List (List Bool)} {k : Nat}, getL a k ≠ [] → getL (a ++ b) k = getL a k
  | [], _, _, h => absurd rfl h
  | x :: a, b, 0, _ => rfl
  | x :: a, b, k + 1, h => getL_append (a := a) (b := b) (k := k) h
theorem getL_at : ∀ {a : List (List Bool)} {k : Nat} {x : List Bool}, a[k]? = some x → getL a k = x
  | [], _, _, h => by simp at h
  | y :: a, 0, _, h => by simp at h; exact h
  | y :: a, k + 1, _, h => getL_at (a := a) (k := k) (by simpa using h)

theorem ancOf_ok {As : List (List Bool)} {j : Nat} : ∀ {l : List Edge}, getB (ancOf As l) j = true → ∃ e ∈ l, Region.binds .any e = true ∧ (j = e.on ∨ getB (getL As e.on) j = true)
  | [], h => by cases h
  | e :: r, h => by
    unfold ancOf at h
    split at h
    · rename_i hb
      rcases getB_or h with h | h
      · rcases getB_or h with h | h
        · exact ⟨e, by simp, hb, .inl (getB_one.1 h)⟩
        · exact ⟨e, by simp, hb, .inr h⟩
      · obtain ⟨e', h1, h2⟩ := ancOf_ok h
        exact ⟨e', by simp [h1], h2⟩
    · obtain ⟨e', h1, h2⟩ := ancOf_ok h
      exact ⟨e', by simp [h1], h2⟩
theorem ancOf_in {As : List (List Bool)} : ∀ {l : List Edge} {e : Edge}, e ∈ l → Region.binds .any e = true → getB (ancOf As l) e.on = true
  | e' :: r, e, h, hb => by
    unfold ancOf
    rcases List.mem_cons.1 h with rfl | h
    · rw [hb]; exact getB_or_l (getB_or_l (getB_one.2 rfl))
    · split
      · exact getB_or_r (ancOf_in h hb)
      · exact ancOf_in h hb

/-- what the table of those before says -/
structure AncOk (ops : List Oper) (As : List (List Bool)) : Prop where
  out : ∀ (i : Nat) o, ops[i]? = some o → ∀ j, getB (getL As i) j = true → ∃ e ∈ o.after, Region.binds .any e = true ∧ (j = e.on ∨ getB (getL As e.on) j = true)
  in_ : ∀ (i : Nat) o, ops[i]? = some o → ∀ e ∈ o.after, Region.binds .any e = true → getB (getL As i) e.on = true

theorem withAncs_out : ∀ (l : List Oper) (As : List (List Bool)) {K : List (List Bool) → Prop}, withAncs l As K → ∃ Bs, K (As ++ Bs) ∧ ∀ (i : Nat) o, l[i]? = some o → Bs[i]? = some (ancOf (As ++ Bs.take i) o.after.toList)
  | [], As, K, h => ⟨[], by simpa [withAncs] using h, fun i o ho => by simp at ho⟩
  | o :: r, As, K, h => by
    unfold withAncs at h
    rw [fBools_eq, fL_eq] at h
    obtain ⟨Bs, h1, h2⟩ := withAncs_out r _ h
    refine ⟨ancOf As o.after.toList :: Bs, by simpa using h1, fun i o' ho => ?_⟩
    cases i with
    | zero => simp at ho; subst ho; simp
    | succ i => have := h2 i o' (by simpa using ho); simpa using this

theorem ancOk {ops : List Oper} {K : List (List Bool) → Prop} (h : withAncs ops [] K) : ∃ As, K As ∧ AncOk ops As := by
  obtain ⟨Bs, h1, h2⟩ := withAncs_out ops [] h
  simp only [List.nil_append] at h1 h2
  refine ⟨Bs, h1, fun i o ho j hj => ?_, fun i o ho e he hb => ?_⟩
  · rw [getL_at (h2 i o ho)] at hj
    obtain ⟨e, he, hb, hh⟩ := ancOf_ok hj
    refine ⟨e, by simpa using he, hb, hh.imp id fun hh => ?_⟩
    have hne : getL (Bs.take i) e.on ≠ [] := fun e => by rw [e] at hh; cases hh
    have := getL_append (b := Bs.drop i) hne
    rw [List.take_append_drop] at this
    rw [this]; exact hh
  · rw [getL_at (h2 i o ho)]
    exact ancOf_in (by simpa using he) hb

theorem getB_drop : ∀ (A : List Bool) (j : Nat), getB (A.drop 1) j = getB A (j + 1)
  | [], _ => rfl
  | _ :: _, _ => rfl
theorem getL_drop : ∀ (A : List (List Bool)) (j : Nat), getL (A.drop 1) j = getL A (j + 1)
  | [], _ => rfl
  | _ :: _, _ => rfl

theorem hideT_ok {i : Nat} {t : Tmp} : ∀ {ops : List Oper} {As : List (List Bool)} {A : List Bool} {ks : List Nat} {c : Nat}, (∀ (j n : Nat), ks[j]? = some n → n = c + j) → hideT i t ops As A ks = false → ∀ (k : Nat) o, ops[k]? = some o → o.dst = some t → c + k ≠ i → getB A k = true ∨ getB (getL As k) i = true
  | [], _, _, _, _, _, _, k, o, ho, _, _ => by simp at ho
  | _ :: _, _, _, [], _, _, h, _, _, _, _, _ => by simp [hideT] at h
  | o' :: os, As, A, n :: ks, c, hk, h, k, o, ho, hd, hne => by
    have hn : n = c := by simpa using hk 0 n rfl
    subst hn
    have rest : hideT i t os (As.drop 1) (A.drop 1) ks = false := by
      unfold hideT at h
      split at h
      · split at h
        · split at h
          · exact h
          · split at h
            · exact h
            · split at h
              · exact h
              · cases h
        · exact h
      · exact h
    cases k with
    | succ k =>
      have := hideT_ok (c := n + 1) (fun j m hm => by have := hk (j + 1) m (by simpa using hm); omega) rest k o (by simpa using ho) hd (by omega)
      rwa [getB_drop, getL_drop] at this
    | zero =>
      simp at ho
      subst ho
      unfold hideT at h
      rw [hd] at h
      simp only [Nat.beq_refl] at h
      split at h
      · exact .inl ‹_›
      · split at h
        · exact .inr ‹_›
        · split at h
          · rename_i hb
            exact absurd (Nat.eq_of_beq_eq_true hb) (by omega)
          · cases h

theorem fW_eq (w : W1) (k : W1 → Prop) : fW w k = k w := by cases w <;> simp only [fW, fNats_eq]
theorem fWs_eq : ∀ (l : List W1) (k : List W1 → Prop), fWs l k = k l
  | [], k => rfl
  | c :: cs, k => by unfold fWs; rw [fW_eq, fWs_eq cs]
theorem anyW_cons {c : W1} {r : List W1} {b : Nat} (h : anyW (c :: r) b = false) : mayW c b = false ∧ anyW r b = false := by
  unfold anyW at h
  split at h
  · cases h
  · exact ⟨‹_›, h⟩
theorem incL_ok {i b : Nat} : ∀ {es : List W1} {As : List (List Bool)} {A : List Bool} {ks : List Nat} {c : Nat}, (∀ (j n : Nat), ks[j]? = some n → n = c + j) → anyW (incL i es As A ks) b = false → ∀ k, mayW (getW es k) b = true → c + k ≠ i → getB A k = true ∨ getB (getL As k) i = true
  | [], _, _, _, _, _, _, k, hk, _ => by cases hk
  | _ :: _, _, _, [], _, _, h, _, _, _ => by simp [incL, anyW, mayW] at h
  | e :: es, As, A, n :: ks, c, hk, h, k, he, hne => by
    have hn : n = c := by simpa using hk 0 n rfl
    subst hn
    have rest : anyW (incL i es (As.drop 1) (A.drop 1) ks) b = false := by
      unfold incL at h
      split at h
      · exact h
      · split at h
        · exact h
        · split at h
          · exact h
          · split at h
            · exact h
            · exact (anyW_cons h).2
    cases k with
    | succ k =>
      have := incL_ok (c := n + 1) (fun j m hm => by have := hk (j + 1) m (by simpa using hm); omega) rest k he (by omega)
      rwa [getB_drop, getL_drop] at this
    | zero =>
      have he : mayW e b = true := he
      unfold incL at h
      split at h
      · cases he
      · split at h
        · rename_i hb
          exact absurd (Nat.eq_of_beq_eq_true hb) (by omega)
        · split at h
          · exact .inl ‹_›
          · split at h
            · exact .inr ‹_›
            · rw [(anyW_cons h).1] at he; cases he
theorem setsOk_ok {e : W1} : ∀ {l : List (Nat × Option Blk)}, setsOk e l = true → ∀ n o, (n, o) ∈ l → mayW e n = true
  | [], _, n, o, h => by cases h
  | (n', o') :: r, h, n, o, hm => by
    unfold setsOk at h
    split at h
    · rename_i hf
      rcases List.mem_cons.1 hm with e | hm
      · injection e with e1 e2; subst e1; exact hf
      · exact setsOk_ok h n o hm
    · cases h

theorem hideB_ok {inc : List W1} {A : List Bool} {b : Nat} : ∀ {own : List (Nat × Nat × Nat)}, hideB inc A b own = false → anyW inc b = false ∧ ∀ k n c, (k, n, c) ∈ own → n ≤ b → b < n + c → getB A k = true
  | [], h => ⟨h, fun k n c hm => by cases hm⟩
  | (k', n', c') :: r, h => by
    unfold hideB at h
    split at h
    · split at h
      · rename_i hk
        obtain ⟨h1, h2⟩ := hideB_ok h
        refine ⟨h1, fun k n c hm h3 h4 => ?_⟩
        rcases List.mem_cons.1 hm with e | hm
        · injection e with e1 e2; subst e1; exact hk
        · exact h2 k n c hm h3 h4
      · cases h
    · rename_i hf
      obtain ⟨h1, h2⟩ := hideB_ok h
      refine ⟨h1, fun k n c hm h3 h4 => ?_⟩
      rcases List.mem_cons.1 hm with e | hm
      · injection e with e1 e2
        injection e2 with e2 e3
        subst e1; subst e2; subst e3
        have : (Nat.ble n b && Nat.blt b (n + c)) = true := by
          rw [Bool.and_eq_true]
          exact ⟨by rw [Nat.ble_eq]; exact h3, by unfold Nat.blt; rw [Nat.ble_eq]; omega⟩
        rw [this] at hf; cases hf
      · exact h2 k n c hm h3 h4

theorem setsSeen_ok {lk : Nat → Option Blk} : ∀ {l : List (Nat × Option Blk)}, setsSeen lk l = true → ∀ n o, (n, o) ∈ l → ∃ x, lk n = some x
  | [], _, n, o, h => by cases h
  | (n', o') :: r, h, n, o, hm => by
    unfold setsSeen at h
    split at h
    · cases h
    · rename_i x hf
      rcases List.mem_cons.1 hm with e | hm
      · injection e with e1 e2; subst e1; exact ⟨x, hf⟩
      · exact setsSeen_ok h n o hm

theorem lits_eq (j n : Nat) (h : lits[j]? = some n) : n = 0 + j := by
  have e : lits = List.range lits.length := by decide +kernel
  rw [e] at h
  rcases Nat.lt_or_ge j lits.length with h1 | h1
  · rw [List.getElem?_range h1] at h
    injection h with h; omega
  · rw [List.getElem?_eq_none (by simpa using h1)] at h; cases h

end Go.Fw

/- Regions whose order is drawn: whatever the order, the same comes out. -/
namespace Go.Fw
set_option linter.unusedVariables false
set_option linter.unusedSimpArgs false

structure Stp where
  i : Nat
  dst : Option Tmp
  nm : Nat
  r : Res

def Stp.ovT (n : Nat) (t : Tmp) (s : Stp) : Option AV := match s.dst with
  | some d => if d = t ∧ t < n then some s.r.val else none
  | none => none
def ovS : List (Nat × Option Blk) → Nat → Option (Option Blk)
  | [], _ => none
  | (n, o) :: r, b => match ovS r b with
    | some x => some x
    | none => if b = n then some o else none
def Stp.ovH (b : Nat) (s : Stp) : Option (Option Blk) := if s.nm ≤ b ∧ b < s.nm + s.r.add.length then some s.r.add[b - s.nm]? else ovS s.r.set b

theorem setF_ov : ∀ (l : List (Nat × Option Blk)) (H : Nat → Option Blk) (b : Nat), setF H l b = (ovS l b).getD (H b)
  | [], H, b => rfl
  | (n, o) :: r, H, b => by
    rw [setF, setF_ov r, ovS]
    cases ovS r b with
    | some x => rfl
    | none =>
      simp only [Option.getD]
      by_cases h : b = n
      · simp [h]
      · simp [h]
theorem ovS_mem : ∀ {l : List (Nat × Option Blk)} {b : Nat} {x : Option Blk}, ovS l b = some x → ∃ o, (b, o) ∈ l
  | (n, o) :: r, b, x, h => by
    unfold ovS at h
    split at h
    · rename_i y hy
      obtain ⟨o', ho⟩ := ovS_mem hy
      exact ⟨o', by simp [ho]⟩
    · split at h
      · rename_i hb; subst hb; exact ⟨o, by simp⟩
      · cases h

theorem step_look (st : St) (s : Stp) (v : AV) (b : Nat) : ((st.act s.nm s.r).put s.dst v).look b = (s.ovH b).getD (st.look b) := by
  have h : ((st.act s.nm s.r).put s.dst v).look b = (st.act s.nm s.r).look b := by cases s.dst <;> rfl
  rw [h, look_act, addF_at]
  unfold Stp.ovH
  split
  · rfl
  · exact setF_ov _ _ _
theorem step_tmp (st : St) (s : Stp) (t : Tmp) : ((st.act s.nm s.r).put s.dst s.r.val).tmp t = (s.ovT st.tmps.length t).getD (st.tmp t) := by
  unfold Stp.ovT
  cases s.dst with
  | none => rfl
  | some d =>
    show (st.tmps.set d s.r.val).getD t .dead = _
    simp only [List.getD_eq_getElem?_getD, List.getElem?_set]
    by_cases hd : d = t
    · subst hd
      by_cases hl : d < st.tmps.length
      · simp [hl]
      · simp [hl, St.tmp]
    · simp [hd, St.tmp]
theorem step_len (st : St) (s : Stp) (v : AV) : ((st.act s.nm s.r).put s.dst v).tmps.length = st.tmps.length := by
  cases hd : s.dst with
  | none => rfl
  | some d => simp [St.put, St.act]
theorem step_heap (st : St) (s : Stp) (v : AV) : st.heap.length ≤ ((st.act s.nm s.r).put s.dst v).heap.length ∧ (0 < s.r.add.length → s.nm + s.r.add.length ≤ ((st.act s.nm s.r).put s.dst v).heap.length) := by
  have h : ((st.act s.nm s.r).put s.dst v).heap = addAll (setAll st.heap s.r.set) s.nm s.r.add := by cases s.dst <;> rfl
  rw [h]
  obtain ⟨h1, h2⟩ := len_addAll s.r.add (setAll st.heap s.r.set) s.nm
  have := len_setAll s.r.set st.heap
  exact ⟨by omega, h2⟩

def foldS {α : Type} (ov : Stp → Option α) (p : Nat → Bool) : List Stp → α → α
  | [], x => x
  | s :: r, x => foldS ov p r (if p s.i then (ov s).getD x else x)

theorem foldS_eq {α : Type} {ov : Stp → Option α} {p q : Nat → Bool} : ∀ {l : List Stp} {x : α}, (∀ s ∈ l, p s.i ≠ q s.i → ov s = none) → foldS ov p l x = foldS ov q l x
  | [], _, _ => rfl
  | s :: r, x, h => by
    unfold foldS
    have : (if p s.i then (ov s).getD x else x) = (if q s.i then (ov s).getD x else x) := by
      by_cases he : p s.i = q s.i
      · rw [he]
      · rw [h s (by simp) he]; simp
    rw [this]
    exact foldS_eq fun s' hs => h s' (by simp [hs])
theorem foldS_none {α : Type} {ov : Stp → Option α} {p : Nat → Bool} : ∀ {l : List Stp} {x : α}, (∀ s ∈ l, p s.i = true → ov s = none) → foldS ov p l x = x
  | [], _, _ => rfl
  | s :: r, x, h => by
    unfold foldS
    have : (if p s.i then (ov s).getD x else x) = x := by
      split
      · rw [h s (by simp) ‹_›]; rfl
      · rfl
    rw [this]
    exact foldS_none fun s' hs => h s' (by simp [hs])
theorem foldS_ins {α : Type} {ov : Stp → Option α} {p p' : Nat → Bool} {s0 : Stp} (hp0 : p s0.i = false) (hp0' : p' s0.i = true) (hp' : ∀ k, k ≠ s0.i → p' k = p k) : ∀ {l : List Stp} {x : α}, s0 ∈ l → l.Pairwise (fun a b => a.i < b.i) →
    (∀ s ∈ l, s0.i < s.i → p s.i = true → ov s0 = none ∨ ov s = none) → foldS ov p' l x = (ov s0).getD (foldS ov p l x)
  | [], _, hm, _, _ => by cases hm
  | s :: r, x, hm, hw, h => by
    obtain ⟨hw1, hw2⟩ := List.pairwise_cons.1 hw
    unfold foldS
    rcases List.mem_cons.1 hm with rfl | hm
    · rw [hp0, hp0']
      simp only [if_true, Bool.false_eq_true, if_false]
      have e : ∀ y, foldS ov p' r y = foldS ov p r y := fun y => foldS_eq fun s hs hne => absurd (hp' s.i (by have := hw1 s hs; omega)) hne
      rw [e]
      cases ho : ov s0 with
      | none => rfl
      | some y =>
        simp only [Option.getD]
        exact foldS_none fun s hs hps => (h s (by simp [hs]) (hw1 s hs) hps).resolve_left (by rw [ho]; simp)
    · have hlt := hw1 s0 hm
      rw [hp' s.i (by omega)]
      exact foldS_ins hp0 hp0' hp' hm hw2 fun s' hs => h s' (by simp [hs])

section
variable (T : Tab) (ops : Array Oper) (As : List (List Bool)) (efs : List W1)

def Anc (i k : Nat) : Prop := getB (getL As i) k = true

structure Fact (prev : List Stp) (st : St) (o : Oper) (s : Stp) : Prop where
  dst : s.dst = o.dst
  nm : st.heap.length ≤ s.nm
  lt : ∀ k, Anc As s.i k → k < s.i
  seen : ∀ (k : Nat) o' d, k < s.i → ops[k]? = some o' → o'.dst = some d → o.dst = some d → Anc As s.i k ∨ Anc As k s.i
  views : ∃ (ht : Tmp → Bool) (hb : Nat → Bool),
    (∀ t, ht t = false → ∀ (k : Nat) o', ops[k]? = some o' → o'.dst = some t → k ≠ s.i → Anc As s.i k ∨ Anc As k s.i) ∧
    (∀ b, hb b = false → (∀ k, mayW (getW efs k) b = true → k ≠ s.i → Anc As s.i k ∨ Anc As k s.i) ∧ ∀ s' ∈ prev, s'.nm ≤ b → b < s'.nm + s'.r.add.length → Anc As s.i s'.i) ∧
    (∀ n x, (n, x) ∈ s.r.set → ∃ y, lookHide st hb n = some y) ∧
    (∀ n x, (n, x) ∈ s.r.set → mayW (getW efs s.i) n = true) ∧
    (((guardTmp ops o = some none ∨ ∃ d want, guardTmp ops o = some (some (d, want)) ∧ ht d = false ∧ st.tmp d = .cell (bv want)) ∧
        dstep T (evHide st ht) (lookHide st hb) s.nm o = some s.r ∧ (∀ q, s.r.pre = some q → q)) ∨
      (∃ d want, guardTmp ops o = some (some (d, want)) ∧ ht d = false ∧ (st.tmp d = .cell (bv (!want)) ∨ st.tmp d = .tup []) ∧ s.r = { pre := none, val := .tup [], add := [], set := [] }))

inductive Run : Nat → List Stp → List Oper → St → List Stp → St → Prop where
  | nil {c prev st} : Run c prev [] st [] st
  | cons {c prev st o l s rest st'} : s.i = c → Fact T ops As efs prev st o s → Run (c + 1) (prev ++ [s]) l ((st.act s.nm s.r).put s.dst s.r.val) rest st' → Run c prev (o :: l) st (s :: rest) st'
end

section
variable {T : Tab} {ops : Array Oper} {As : List (List Bool)} {efs : List W1}

theorem put_same {st : St} {d : Tmp} {v : AV} (h : st.tmp d = v) : st.put (some d) v = st := by
  show { st with tmps := st.tmps.set d v } = st
  have : st.tmps.set d v = st.tmps := by
    apply List.ext_getElem?
    intro i
    rw [List.getElem?_set]
    by_cases hd : d = i
    · subst hd
      by_cases hl : d < st.tmps.length
      · simp [hl]
        rw [← h]
        simp [St.tmp, hl]
      · simp [hl]
    · simp [hd]
  rw [this]

theorem exM_run : ∀ (l : List Oper) (c : Nat) (is : List Nat) (own : List (Nat × Nat × Nat)) (prev : List Stp) {st : St} {K : St → Prop},
    ops.toList.drop c = l → (∀ (j n : Nat), is[j]? = some n → n = c + j) → (∀ s ∈ prev, s.r.add ≠ [] → (s.i, s.nm, s.r.add.length) ∈ own) → exM T ops As efs l is own st K →
    ∃ rs st', Run T ops As efs c prev l st rs st' ∧ K st'
  | [], c, is, own, prev, st, K, _, _, _, h => ⟨[], st, .nil, h⟩
  | o :: l, c, [], own, prev, st, K, _, _, _, h => h.elim
  | o :: l, c, i :: is, own, prev, st, K, hd, hi, ho, h => by
    have hc : i = c := by simpa using hi 0 i rfl
    subst hc
    have hi' : ∀ (j n : Nat), is[j]? = some n → n = i + 1 + j := fun j n hn => by have := hi (j + 1) n (by simpa using hn); omega
    have hd' : ops.toList.drop (i + 1) = l := by
      have := congrArg (List.drop 1) hd
      simpa using this
    unfold exM at h
    split at h
    · exact h.elim
    · rename_i hchk
      rw [Bool.and_eq_true] at hchk
      obtain ⟨hle, hseen⟩ := hchk
      rw [fWs_eq] at h
      generalize hinc : incL i efs As (getL As i) lits = inc at h
      have lt : ∀ k, Anc As i k → k < i := fun k hk => lenLe_ok hle hk
      have seen : ∀ (k : Nat) o' d, k < i → ops[k]? = some o' → o'.dst = some d → o.dst = some d → Anc As i k ∨ Anc As k i := by
        intro k o' d hk hko hd1 hd2
        unfold dstSeen at hseen
        rw [hd2] at hseen
        simp only at hseen
        split at hseen
        · cases hseen
        · rename_i hf
          exact hideT_ok (c := 0) (fun j n h => lits_eq j n h) hf k o' (by rw [List.getElem?_take, if_pos hk, Array.getElem?_toList]; exact hko) hd1 (by omega)
      have v1 : ∀ t, hideT i t ops.toList As (getL As i) lits = false → ∀ (k : Nat) o', ops[k]? = some o' → o'.dst = some t → k ≠ i → Anc As i k ∨ Anc As k i := by
        intro t ht k o' hk hd1 hne
        exact hideT_ok (c := 0) (fun j n h => lits_eq j n h) ht k o' (by rw [Array.getElem?_toList]; exact hk) hd1 (by omega)
      have v2 : ∀ b, hideB inc (getL As i) b own = false → (∀ k, mayW (getW efs k) b = true → k ≠ i → Anc As i k ∨ Anc As k i) ∧ ∀ s' ∈ prev, s'.nm ≤ b → b < s'.nm + s'.r.add.length → Anc As i s'.i := by
        intro b hb
        obtain ⟨h1, h2⟩ := hideB_ok hb
        refine ⟨fun k hk hne => incL_ok (c := 0) (fun j n h => lits_eq j n h) (by rw [hinc]; exact h1) k hk (by omega), fun s' hs h3 h4 => h2 _ _ _ (ho s' hs ?_) h3 h4⟩
        intro e; rw [e] at h4; simp at h4; omega
      -- one that is done
      have do_ : ∀ {st : St}, (guardTmp ops o = some none ∨ ∃ d want, guardTmp ops o = some (some (d, want)) ∧ hideT i d ops.toList As (getL As i) lits = false ∧ st.tmp d = .cell (bv want)) →
          (withName lits st.heap st.heap.length fun nm => doM T o (fun t => hideT i t ops.toList As (getL As i) lits) (fun b => hideB inc (getL As i) b own) (getW efs i) nm st fun st' add => exM T ops As efs l is (ownAdd own i nm add) st' K) →
          ∃ rs st', Run T ops As efs i prev (o :: l) st rs st' ∧ K st' := by
        intro st hg h
        obtain ⟨nm, hnm, h⟩ := named h
        unfold doM at h
        split at h
        · rename_i r hr
          obtain ⟨hp, h⟩ := need_out h
          rw [fRes_eq] at h
          split at h
          · rename_i hs
            rw [Bool.and_eq_true] at hs
            rw [fSt_eq] at h
            obtain ⟨rs, st', h1, h2⟩ := exM_run l (i + 1) is (ownAdd own i nm r.add) (prev ++ [{ i := i, dst := o.dst, nm := nm, r := r }]) hd' hi' (fun s hs hne => by
              rcases List.mem_append.1 hs with hs | hs
              · have := ho s hs hne
                cases r.add with
                | nil => exact this
                | cons _ _ => exact List.mem_cons_of_mem _ this
              · simp at hs
                subst hs
                simp only at hne ⊢
                cases hra : r.add with
                | nil => exact absurd hra hne
                | cons x y => simp [ownAdd]) h
            exact ⟨_, st', .cons rfl ⟨rfl, hnm, lt, seen, _, _, v1, v2, fun n x hx => setsSeen_ok hs.1 n x hx, fun n x hx => setsOk_ok hs.2 n x hx, .inl ⟨hg, hr, hp⟩⟩ h1, h2⟩
          · exact h.elim
        · exact h.elim
      have skip_ : ∀ {st : St} {d : Tmp} {want : Bool}, guardTmp ops o = some (some (d, want)) → hideT i d ops.toList As (getL As i) lits = false → (st.tmp d = .cell (bv (!want)) ∨ st.tmp d = .tup []) → exM T ops As efs l is own (st.put o.dst (.tup [])) K →
          ∃ rs st', Run T ops As efs i prev (o :: l) st rs st' ∧ K st' := by
        intro st d want hg hh ht h
        obtain ⟨rs, st', h1, h2⟩ := exM_run l (i + 1) is own (prev ++ [{ i := i, dst := o.dst, nm := st.heap.length, r := { pre := none, val := .tup [], add := [], set := [] } }]) hd' hi' (fun s hs hne => by
          rcases List.mem_append.1 hs with hs | hs
          · exact ho s hs hne
          · simp at hs; subst hs; simp at hne) h
        exact ⟨_, st', .cons rfl ⟨rfl, Nat.le_refl _, lt, seen, _, _, v1, v2, fun n x hx => (by cases hx), fun n x hx => (by cases hx), .inr ⟨d, want, hg, hh, ht, rfl⟩⟩ h1, h2⟩
      split at h
      · exact h.elim
      · rename_i hg
        exact do_ (.inl hg) h
      · rename_i d want hg
        split at h
        · rename_i b hb
          have hvis : hideT i d ops.toList As (getL As i) lits = false ∧ st.tmp d = .cell (bv b) := by
            unfold evHide at hb
            simp only at hb
            split at hb
            · cases hb
            · exact ⟨‹_›, hb⟩
          cases b with
          | true =>
            simp only [Br] at h
            rw [fSt_eq, put_same hvis.2] at h
            cases want with
            | true => exact do_ (.inr ⟨d, true, hg, hvis.1, hvis.2⟩) h
            | false => simp only [fSt_eq] at h; exact skip_ hg hvis.1 (.inl hvis.2) h
          | false =>
            simp only [Br] at h
            rw [fSt_eq, put_same hvis.2] at h
            cases want with
            | false => exact do_ (.inr ⟨d, false, hg, hvis.1, hvis.2⟩) h
            | true => simp only [fSt_eq] at h; exact skip_ hg hvis.1 (.inl hvis.2) h
        · rename_i hb
          have hvis : hideT i d ops.toList As (getL As i) lits = false ∧ st.tmp d = .tup [] := by
            unfold evHide at hb
            simp only at hb
            split at hb
            · cases hb
            · exact ⟨‹_›, hb⟩
          rw [fSt_eq] at h
          exact skip_ hg hvis.1 (.inr hvis.2) h
        · exact h.elim

theorem Run.idx : ∀ {c : Nat} {prev : List Stp} {l : List Oper} {st : St} {rs : List Stp} {st' : St}, Run T ops As efs c prev l st rs st' → rs.length = l.length ∧ (∀ (j : Nat) s, rs[j]? = some s → s.i = c + j) ∧ rs.Pairwise (fun a b => a.i < b.i) ∧ ∀ s ∈ rs, c ≤ s.i := by
  intro c prev l st rs st' h
  induction h with
  | nil => exact ⟨rfl, fun j s h => by simp at h, List.Pairwise.nil, fun s h => by cases h⟩
  | cons hi hf _ ih =>
    obtain ⟨h1, h2, h3, h4⟩ := ih
    refine ⟨by simp [h1], fun j s hj => ?_, List.pairwise_cons.2 ⟨fun s hs => by have := h4 s hs; omega, h3⟩, fun s hs => ?_⟩
    · cases j with
      | zero => simp at hj; subst hj; simpa using hi
      | succ j => have := h2 j s (by simpa using hj); omega
    · rcases List.mem_cons.1 hs with rfl | hs
      · omega
      · have := h4 s hs; omega

/-- the state before step j, read off the steps -/
structure AtJ (st : St) (rs : List Stp) (c : Nat) (sti : St) : Prop where
  tmp : ∀ t, sti.tmp t = foldS (Stp.ovT st.tmps.length t) (fun k => decide (k < c)) rs (st.tmp t)
  look : ∀ b, sti.look b = foldS (Stp.ovH b) (fun k => decide (k < c)) rs (st.look b)
  len : sti.tmps.length = st.tmps.length
  heap : st.heap.length ≤ sti.heap.length
  add : ∀ s ∈ rs, s.i < c → 0 < s.r.add.length → s.nm + s.r.add.length ≤ sti.heap.length
  later : ∀ s ∈ rs, c ≤ s.i → sti.heap.length ≤ s.nm

theorem Run.nmge : ∀ {c : Nat} {prev : List Stp} {l : List Oper} {st : St} {rs : List Stp} {st' : St}, Run T ops As efs c prev l st rs st' → ∀ s ∈ rs, st.heap.length ≤ s.nm := by
  intro c prev l st rs st' hrun
  induction hrun with
  | nil => intro s h; cases h
  | @cons c prev stx o l s rest st' hi hfx hr ih =>
    intro s2 h2
    rcases List.mem_cons.1 h2 with rfl | h2
    · exact hfx.nm
    · have := ih s2 h2
      have := (step_heap stx s s.r.val).1
      omega

theorem Run.at_ : ∀ {c : Nat} {prev : List Stp} {l : List Oper} {st : St} {rs : List Stp} {st' : St}, Run T ops As efs c prev l st rs st' →
    (∀ (j : Nat) s, rs[j]? = some s → ∃ o sti, l[j]? = some o ∧ Fact T ops As efs (prev ++ rs.take j) sti o s ∧ AtJ st rs (c + j) sti) ∧ AtJ st rs (c + l.length) st' := by
  intro c prev l st rs st' h
  induction h with
  | nil => exact ⟨fun j s h => by simp at h, ⟨fun _ => rfl, fun _ => rfl, rfl, Nat.le_refl _, fun s h => (by cases h), fun s h => (by cases h)⟩⟩
  | @cons c prev st o l s rest st' hi hf hr ih =>
    obtain ⟨h1, h2⟩ := ih
    obtain ⟨_, _, _, hge⟩ := hr.idx
    have up : ∀ {j : Nat} {sti : St}, AtJ ((st.act s.nm s.r).put s.dst s.r.val) rest (c + 1 + j) sti → AtJ st (s :: rest) (c + (j + 1)) sti := by
      intro j sti h
      have e : c + (j + 1) = c + 1 + j := by omega
      rw [e]
      have hlt : decide (s.i < c + 1 + j) = true := by simp; omega
      obtain ⟨g1, g2⟩ := step_heap st s s.r.val
      refine ⟨fun t => ?_, fun b => ?_, by rw [h.len, step_len], by have := h.heap; omega, fun s' hs' hlt' hpos => ?_, fun s' hs' hge' => ?_⟩
      · rw [h.tmp, step_tmp, step_len]
        show _ = foldS _ _ rest (if decide (s.i < c + 1 + j) then _ else _)
        rw [hlt]; rfl
      · rw [h.look, step_look]
        show _ = foldS _ _ rest (if decide (s.i < c + 1 + j) then _ else _)
        rw [hlt]; rfl
      · rcases List.mem_cons.1 hs' with rfl | hs'
        · have := g2 hpos; have := h.heap; omega
        · exact h.add s' hs' hlt' hpos
      · rcases List.mem_cons.1 hs' with rfl | hs'
        · omega
        · exact h.later s' hs' hge'
    refine ⟨fun j s' hj => ?_, ?_⟩
    · cases j with
      | zero =>
        simp at hj
        subst hj
        have hno : ∀ s' ∈ (s :: rest), decide (s'.i < c + 0) = true → False := by
          intro s' hs' hlt
          simp at hlt
          rcases List.mem_cons.1 hs' with rfl | hs'
          · omega
          · have := hge s' hs'; omega
        refine ⟨o, st, rfl, by simpa using hf, ⟨fun t => ?_, fun b => ?_, rfl, Nat.le_refl _, fun s' hs' hlt => absurd (by simpa using hlt) (hno s' hs'), fun s' hs' _ => (Run.cons hi hf hr).nmge s' hs'⟩⟩
        · exact (foldS_none fun s' hs' hlt => (hno s' hs' hlt).elim).symm
        · exact (foldS_none fun s' hs' hlt => (hno s' hs' hlt).elim).symm
      | succ j =>
        obtain ⟨o', sti, g1, g2, g3⟩ := h1 j s' (by simpa using hj)
        exact ⟨o', sti, by simpa using g1, by simpa using g2, up g3⟩
    · have := up h2
      simpa using this

end
end Go.Fw

/- Regions whose order is drawn: the rule. -/
namespace Go.Fw
set_option linter.unusedVariables false
set_option linter.unusedSimpArgs false

theorem Sim.congr {st st' : St} {E : Env} {a : Act} (h : Sim st E a) (hl : st'.tmps.length = st.tmps.length) (ht : ∀ t, st'.tmp t = st.tmp t) (hb : ∀ b, st'.look b = st.look b) (hU : ∀ b, E.U b → b < st'.heap.length) : Sim st' E a := by
  refine ⟨h.defers, h.len.trans hl.symm, fun i x hx => ?_, h.ok, fun b => (h.H b).trans (hb b).symm, hU⟩
  have hi : i < st'.tmps.length := (List.getElem?_eq_some_iff.1 hx).1
  have h1 := ht i
  unfold St.tmp at h1
  rw [List.getD_eq_getElem?_getD, List.getD_eq_getElem?_getD, hx] at h1
  have h2 : st.tmps[i]? = some st.tmps[i] := List.getElem?_eq_getElem (by omega)
  rw [h2] at h1
  simp at h1
  subst h1
  exact h.tmp i _ h2

def drawE (E : Env) : Env := { E with w := { E.w with drawn := E.w.drawn + 1 } }
theorem drawE_ext (E : Env) : Ext E (drawE E) := ⟨fun g h => ⟨h, rfl⟩, fun _ h => h, fun b x' _ h => ⟨x', h, rfl, rfl, fun g cs el _ h => ⟨cs, h, rfl⟩⟩⟩
theorem Sim.draw {st : St} {E : Env} {a : Act} (h : Sim st E a) : Sim st (drawE E) a := by
  refine ⟨h.defers, h.len, fun i x hx => ?_, ⟨fun b x hx => ?_, h.ok.inj, h.ok.st⟩, h.H, h.U⟩
  · obtain ⟨v, h1, h2⟩ := h.tmp i x hx
    exact ⟨v, h1, h2.ext (drawE_ext E)⟩
  · obtain ⟨h1, h2, h3⟩ := h.ok.blk b x hx
    exact ⟨h1, h2.ext (drawE_ext E) rfl fun _ _ => rfl, h3⟩
theorem Fr.draw {E0 E : Env} (h : Fr E0 E) : Fr E0 (drawE E) :=
  ⟨⟨h.fr.os, h.fr.tape, h.fr.output, h.fr.size, h.fr.old, h.fr.own, h.fr.S⟩, h.ext.trans (drawE_ext E)⟩

section
variable {P : Program} {T : Tab} {ops : Array Oper} {As : List (List Bool)} {efs : List W1}

structure Inv (As : List (List Bool)) (st : St) (rs : List Stp) (E0 : Env) (D : Nat → Bool) (a : Act) (w : World) : Prop where
  ex : ∃ st' E, E.w = w ∧ Sim st' E a ∧ Fr E0 E ∧ st'.tmps.length = st.tmps.length ∧ (∀ t, st'.tmp t = foldS (Stp.ovT st.tmps.length t) D rs (st.tmp t)) ∧
    (∀ b, st'.look b = foldS (Stp.ovH b) D rs (st.look b)) ∧ (∀ b, E.U b → b < st.heap.length ∨ ∃ s ∈ rs, D s.i = true ∧ s.nm ≤ b ∧ b < s.nm + s.r.add.length)
  closed : ∀ k j, D k = true → Anc As k j → D j = true

theorem Inv.step (hT : TabOk P T) (hP : SpecsOk P T) {st stn : St} {rs : List Stp} {E0 : Env} {D : Nat → Bool} {a : Act} {w : World} {i : Nat} {K : Act → World → Prop} {Q : Exit → Act → World → Prop}
    (hr : Run T ops As efs 0 [] ops.toList st rs stn) (hi : i < ops.size) (hD : D i = false) (hdep : ∀ j, Anc As i j → D j = true) (h : Inv As st rs E0 D a w)
    (hK : ∀ a' w', Inv As st rs E0 (fun k => D k || Nat.beq k i) a' w' → K a' w') : wpOp P ops Q i K a w := by
  obtain ⟨⟨st', E, rfl, hs, hf, hlen, htm, hlk, hU⟩, hcl⟩ := h
  obtain ⟨hrl, hidx, hpw, _⟩ := hr.idx
  obtain ⟨hat, _⟩ := hr.at_
  have hi' : i < rs.length := by rw [hrl]; simpa using hi
  have hsi : rs[i]? = some rs[i] := List.getElem?_eq_getElem hi'
  generalize rs[i] = s at hsi
  have hsm : s ∈ rs := List.mem_of_getElem? hsi
  obtain ⟨o, sti, ho, hfact, hst⟩ := hat i s hsi
  have e0 : s.i = i := by have := hidx i s hsi; omega
  simp only [Nat.zero_add] at hst
  simp only [List.nil_append] at hfact
  have hoi : ops[i]? = some o := by rw [← Array.getElem?_toList]; exact ho
  -- facts of any step
  have step : ∀ s' ∈ rs, ∃ o' sti', ops[s'.i]? = some o' ∧ Fact T ops As efs (rs.take s'.i) sti' o' s' ∧ AtJ st rs s'.i sti' := by
    intro s' hs'
    obtain ⟨j, hj⟩ := List.mem_iff_getElem?.1 hs'
    obtain ⟨o', sti', g1, g2, g3⟩ := hat j s' hj
    have e : s'.i = j := by have := hidx j s' hj; omega
    rw [e]
    exact ⟨o', sti', by rw [← Array.getElem?_toList]; exact g1, by simpa using g2, by simpa using g3⟩
  have before : ∀ s1 ∈ rs, ∀ s2 ∈ rs, s1.i < s2.i → 0 < s1.r.add.length → s1.nm + s1.r.add.length ≤ s2.nm := by
    intro s1 h1 s2 h2 hlt hpos
    obtain ⟨_, sti', _, g2, g3⟩ := step s2 h2
    have := g3.add s1 h1 hlt hpos
    have := g2.nm
    omega
  have inTake : ∀ s1 ∈ rs, s1.i < i → s1 ∈ rs.take i := by
    intro s1 h1 hlt
    obtain ⟨j, hj⟩ := List.mem_iff_getElem?.1 h1
    have e : s1.i = j := by have := hidx j s1 hj; omega
    exact List.mem_of_getElem? (i := j) (by rw [List.getElem?_take, if_pos (by omega)]; exact hj)
  obtain ⟨ht, hb, v1, v2, v3, v4, hact⟩ := hfact.views
  rw [e0] at v1 v2 v4
  have same : ∀ s1 ∈ rs, s1.i = i → s1 = s := by
    intro s1 h1 he
    obtain ⟨j, hj⟩ := List.mem_iff_getElem?.1 h1
    have e : s1.i = j := by have := hidx j s1 hj; omega
    have : j = i := by omega
    subst this
    rw [hj] at hsi; injection hsi
  -- the views
  have viewT : ∀ t, ht t = false → st'.tmp t = sti.tmp t := by
    intro t h1
    rw [htm, hst.tmp]
    refine foldS_eq fun s1 hs1 hne => ?_
    obtain ⟨o1, _, g1, g2, _⟩ := step s1 hs1
    cases ho1 : s1.ovT st.tmps.length t with
    | none => rfl
    | some y =>
      exfalso
      have hd1 : o1.dst = some t := by
        rw [← g2.dst]
        unfold Stp.ovT at ho1
        cases hd : s1.dst with
        | none => rw [hd] at ho1; cases ho1
        | some d =>
          rw [hd] at ho1
          simp only at ho1
          split at ho1
          · rename_i hc; rw [hc.1]
          · cases ho1
      by_cases he : s1.i = i
      · rw [he] at hne; exact hne (by rw [hD]; simp)
      · rcases v1 t h1 s1.i o1 g1 hd1 he with hanc | hanc
        · have h2 := hdep _ hanc
          have h3 := hfact.lt _ (e0 ▸ hanc)
          exact hne (by rw [h2]; simp; omega)
        · have h3 := g2.lt _ hanc
          cases hds : D s1.i with
          | true => have := hcl _ _ hds hanc; rw [hD] at this; cases this
          | false => exact hne (by rw [hds]; simp; omega)
  have viewB : ∀ b x, lookHide sti hb b = some x → st'.look b = some x := by
    intro b x hx
    unfold lookHide at hx
    cases hbb : hb b with
    | true => rw [hbb] at hx; cases hx
    | false =>
      rw [hbb] at hx
      simp only at hx
      have hblt : b < sti.heap.length := by
        rcases Nat.lt_or_ge b sti.heap.length with h | h
        · exact h
        · unfold St.look at hx
          rw [List.getElem?_eq_none h] at hx
          cases hx
      rw [← hx, hlk, hst.look]
      obtain ⟨w1, w2⟩ := v2 b hbb
      refine foldS_eq fun s1 hs1 hne => ?_
      obtain ⟨o1, sti1, g1, g2, g3⟩ := step s1 hs1
      by_cases he : s1.i = i
      · exact absurd (by rw [he, hD]; simp) hne
      cases ho1 : s1.ovH b with
      | none => rfl
      | some y =>
        exfalso
        unfold Stp.ovH at ho1
        split at ho1
        · rename_i hrng
          rcases Nat.lt_or_ge s1.i i with hlt | hge
          · have hanc := w2 s1 (inTake s1 hs1 hlt) hrng.1 hrng.2
            exact hne (by rw [hdep _ hanc]; simp [hlt])
          · have := hst.later s1 hs1 hge
            omega
        · rename_i hrng
          obtain ⟨oo, hoo⟩ := ovS_mem ho1
          obtain ⟨_, _, _, _, _, u4, _⟩ := g2.views
          rcases w1 s1.i (u4 _ _ hoo) he with hanc | hanc
          · have h3 := hfact.lt _ (e0 ▸ hanc)
            exact hne (by rw [hdep _ hanc]; simp; omega)
          · have h3 := g2.lt _ hanc
            cases hds : D s1.i with
            | true => have := hcl _ _ hds hanc; rw [hD] at this; cases this
            | false => exact hne (by rw [hds]; simp; omega)
  have hev : ∀ x, AVR E (evHide sti ht x) (a.eval x) := by
    intro x
    cases x with
    | tmp t =>
      show AVR E (match ht t with | true => .dead | false => sti.tmp t) _
      cases h1 : ht t with
      | true => trivial
      | false => rw [← viewT t h1]; exact hs.at_ t
    | const v => exact hs.eval (.const v)
    | func f => exact hs.eval (.func f)
    | global g => trivial
  -- what no later one of D writes
  have apart : ∀ s1 ∈ rs, i < s1.i → D s1.i = true → ∃ o1 sti1, ops[s1.i]? = some o1 ∧ Fact T ops As efs (rs.take s1.i) sti1 o1 s1 ∧ ¬ Anc As s1.i i := by
    intro s1 hs1 hlt hd1
    obtain ⟨o1, sti1, g1, g2, _⟩ := step s1 hs1
    exact ⟨o1, sti1, g1, g2, fun hanc => by have := hcl _ _ hd1 hanc; rw [hD] at this; cases this⟩
  have dT : ∀ t, ∀ s1 ∈ rs, s.i < s1.i → D s1.i = true → s.ovT st.tmps.length t = none ∨ s1.ovT st.tmps.length t = none := by
    intro t s1 hs1 hlt hd1
    rw [e0] at hlt
    obtain ⟨o1, sti1, g1, g2, hna⟩ := apart s1 hs1 hlt hd1
    unfold Stp.ovT
    cases hd : s.dst with
    | none => exact .inl rfl
    | some d =>
      cases hd' : s1.dst with
      | none => exact .inr rfl
      | some d' =>
        by_cases h1 : d = t
        · by_cases h2 : d' = t
          · exfalso
            rcases g2.seen i o d hlt hoi (by rw [← hfact.dst]; exact hd) (by rw [← g2.dst, hd', h1, h2]) with hanc | hanc
            · exact hna hanc
            · have := hfact.lt _ (e0 ▸ hanc); omega
          · exact .inr (by simp [h2])
        · exact .inl (by simp [h1])
  have dB : ∀ b, ∀ s1 ∈ rs, s.i < s1.i → D s1.i = true → s.ovH b = none ∨ s1.ovH b = none := by
    intro b s1 hs1 hlt hd1
    rw [e0] at hlt
    obtain ⟨o1, sti1, g1, g2, hna⟩ := apart s1 hs1 hlt hd1
    obtain ⟨ht1, hb1, _, u2, u3, u4, _⟩ := g2.views
    cases hx : s.ovH b with
    | none => exact .inl rfl
    | some y =>
      cases hx1 : s1.ovH b with
      | none => exact .inr rfl
      | some y1 =>
        exfalso
        have see : ∀ {stz : St} {hz : Nat → Bool} {n : Nat} {z : Blk}, lookHide stz hz n = some z → hz n = false ∧ n < stz.heap.length := by
          intro stz hz n z h
          unfold lookHide at h
          cases hh : hz n with
          | true => rw [hh] at h; cases h
          | false =>
            rw [hh] at h
            refine ⟨rfl, ?_⟩
            rcases Nat.lt_or_ge n stz.heap.length with h1 | h1
            · exact h1
            · simp only at h
              unfold St.look at h
              rw [List.getElem?_eq_none h1] at h
              cases h
        have hs_take : s ∈ rs.take s1.i := List.mem_of_getElem? (i := i) (by rw [List.getElem?_take, if_pos hlt]; exact hsi)
        unfold Stp.ovH at hx hx1
        split at hx1
        · rename_i hr1
          split at hx
          · rename_i hr0
            have := before s hsm s1 hs1 (by omega) (by omega)
            omega
          · obtain ⟨oo, hoo⟩ := ovS_mem hx
            obtain ⟨z, hz⟩ := v3 _ _ hoo
            have h5 := (see hz).2
            have h6 := hst.later s1 hs1 (by omega)
            omega
        · obtain ⟨o1', ho1⟩ := ovS_mem hx1
          obtain ⟨z, hz⟩ := u3 _ _ ho1
          obtain ⟨w1, w2⟩ := u2 b (see hz).1
          split at hx
          · rename_i hr0
            have := w2 s hs_take hr0.1 hr0.2
            rw [e0] at this
            exact hna this
          · obtain ⟨oo, hoo⟩ := ovS_mem hx
            rcases w1 i (v4 _ _ hoo) (by omega) with hanc | hanc
            · exact hna hanc
            · have := hfact.lt _ (e0 ▸ hanc); omega
  -- the next state
  have next : ∀ (E' : Env) (a' : Act) (sn : St), Sim sn E' a' → Fr E0 E' → sn = (st'.act s.nm s.r).put s.dst s.r.val → (∀ b, E'.U b → E.U b ∨ (s.nm ≤ b ∧ b < s.nm + s.r.add.length)) → K a' E'.w := by
    intro E' a' sn hs' hf' hsn hU'
    have hD0 : D s.i = false := by rw [e0]; exact hD
    have hD1 : (D s.i || Nat.beq s.i i) = true := by rw [e0]; simp
    have hD2 : ∀ k, k ≠ s.i → (D k || Nat.beq k i) = D k := by
      intro k hk
      have : Nat.beq k i = false := by
        cases hb : Nat.beq k i with
        | false => rfl
        | true => exact absurd (Nat.eq_of_beq_eq_true hb) (by omega)
      rw [this, Bool.or_false]
    refine hK a' E'.w ⟨⟨sn, E', rfl, hs', hf', ?_, fun t => ?_, fun b => ?_, fun b hb => ?_⟩, fun k j hk hj => ?_⟩
    · rw [hsn, step_len, hlen]
    · rw [hsn, step_tmp, hlen, htm, foldS_ins (p := D) (p' := fun k => D k || Nat.beq k i) hD0 hD1 hD2 hsm hpw (dT t)]
    · rw [hsn, step_look, hlk, foldS_ins (p := D) (p' := fun k => D k || Nat.beq k i) hD0 hD1 hD2 hsm hpw (dB b)]
    · rcases hU' b hb with hb | hb
      · rcases hU b hb with h1 | ⟨s1, h1, h2, h3⟩
        · exact .inl h1
        · exact .inr ⟨s1, h1, by simp [h2], h3⟩
      · exact .inr ⟨s, hsm, hD1, hb⟩
    · simp only [Bool.or_eq_true] at hk ⊢
      rcases hk with hk | hk
      · exact .inl (hcl _ _ hk hj)
      · have := Nat.eq_of_beq_eq_true hk
        subst this
        exact .inl (hdep _ hj)
  have hgd : ∀ {d : Tmp} {want b : Bool}, guardTmp ops o = some (some (d, want)) → ht d = false → sti.tmp d = .cell (bv b) → Region.wanted o (yielded ops a.tmps) = (b == want) := by
    intro d want b hg h1 h2
    exact (guard_rel hs hg (by rw [viewT d h1]; exact h2)).1
  unfold wpOp
  rw [hoi]
  simp only
  rcases hact with ⟨hg, hr', hp⟩ | ⟨d, want, hg, h1, h2, hr'⟩
  · have hw : Region.wanted o (yielded ops a.tmps) = true := by
      rcases hg with hg | ⟨d, want, hg, h1, h2⟩
      · exact guard_none hg _
      · rw [hgd hg h1 h2]; simp
    rw [if_pos hw]
    refine .inl (dstep_sound hT hP hs.ok hev (fun b x hx => (hs.H b).trans (viewB b x hx)) hr' hp (fun k hk hUk => ?_) fun E' v k1 k2 => ?_)
    · rcases hU _ hUk with h3 | ⟨s1, h3, h4, h5, h6⟩
      · have := hst.heap; have := hfact.nm; omega
      · rcases Nat.lt_trichotomy s1.i i with hl | hl | hl
        · have := before s1 h3 s hsm (by omega) (by omega); omega
        · rw [hl, hD] at h4; cases h4
        · have := before s hsm s1 h3 (by omega) (by omega); omega
    · have hsim := hs.step (dst := o.dst) k1 k2
      refine next E' _ _ hsim (hf.step k1) (by rw [hfact.dst]) fun b hb => (k1.U b).1 hb
  · have hw : Region.wanted o (yielded ops a.tmps) = false := by
      rcases h2 with h2 | h2
      · rw [hgd hg h1 h2]
        cases want <;> rfl
      · exact guard_tup hs hg (by rw [viewT d h1]; exact h2)
    rw [if_neg (by rw [hw]; simp)]
    refine next E _ _ (hs.skip o.dst) hf ?_ fun b hb => .inl hb
    rw [hr', hfact.dst]
    cases o.dst <;> rfl

theorem count_set {listed : Array Bool} {i : Nat} (hi : i < listed.size) (h : listed.getD i false = false) : (listed.setIfInBounds i true).toList.count false + 1 = listed.toList.count false := by
  rw [Array.toList_setIfInBounds]
  have hi' : i < listed.toList.length := by simpa using hi
  have e : listed.toList[i] = false := by
    rw [Array.getD_eq_getD_getElem?, Array.getElem?_eq_getElem hi] at h
    simpa using h
  clear hi h
  generalize listed.toList = l at hi' e
  induction l generalizing i with
  | nil => simp at hi'
  | cons x l ih =>
    cases i with
    | zero =>
      simp at e
      subst e
      simp
    | succ i =>
      have := ih (i := i) (by simpa using hi') (by simpa using e)
      simp only [List.set_cons_succ, List.count_cons]
      omega

theorem any_ok (hT : TabOk P T) (hP : SpecsOk P T) {st stn : St} {rs : List Stp} {E0 : Env} {Q : Exit → Act → World → Prop} {K : St → Prop} (hA : AncOk ops.toList As)
    (hr : Run T ops As efs 0 [] ops.toList st rs stn) (hk : K stn) (hq : ∀ st' E' a', Sim st' E' a' → Fr E0 E' → K st' → Q .normal a' E'.w) :
    ∀ (fuel : Nat) (listed : Array Bool) (a : Act) (w : World), listed.size = ops.size → listed.toList.count false ≤ fuel → Inv As st rs E0 (fun k => listed.getD k false) a w → wpAny P .any ops Q fuel listed a w := by
  have lt : ∀ i, i < ops.size → ∀ k, Anc As i k → k < i := by
    intro i hi k hanc
    obtain ⟨hrl, hidx, _, _⟩ := hr.idx
    have hi' : i < rs.length := by rw [hrl]; simpa using hi
    have hsi : rs[i]? = some rs[i] := List.getElem?_eq_getElem hi'
    obtain ⟨o, sti, _, hf, _⟩ := hr.at_.1 i _ hsi
    have e0 := hidx i _ hsi
    have e1 : rs[i].i = i := by omega
    have := hf.lt k (by rw [e1]; exact hanc)
    omega
  have fin : ∀ (listed : Array Bool) (a : Act) (w : World), listed.size = ops.size → Inv As st rs E0 (fun k => listed.getD k false) a w → (∀ i, i < ops.size → listed.getD i false = true) → Q .normal a w := by
    intro listed a w hsz hinv hall
    obtain ⟨⟨st', E, rfl, hs, hf, hlen, htm, hlk, hU⟩, _⟩ := hinv
    obtain ⟨hrl, hidx, _, _⟩ := hr.idx
    have hend := hr.at_.2
    have hl : ∀ s ∈ rs, listed.getD s.i false = true ∧ s.i < 0 + ops.toList.length := by
      intro s hs
      obtain ⟨j, hj⟩ := List.mem_iff_getElem?.1 hs
      have hjl : j < rs.length := (List.getElem?_eq_some_iff.1 hj).1
      have e : s.i = j := by have := hidx j s hj; omega
      rw [hrl] at hjl
      refine ⟨hall _ (by rw [e]; simpa using hjl), by omega⟩
    refine hq stn E a (hs.congr ?_ (fun t => ?_) (fun b => ?_) fun b hb => ?_) hf hk
    · rw [hend.len, hlen]
    · rw [hend.tmp, htm]
      exact foldS_eq fun s hs hne => absurd (by rw [(hl s hs).1]; simpa using (hl s hs).2) hne
    · rw [hend.look, hlk]
      exact foldS_eq fun s hs hne => absurd (by rw [(hl s hs).1]; simpa using (hl s hs).2) hne
    · rcases hU b hb with h1 | ⟨s, h1, _, h2, h3⟩
      · have := hend.heap; omega
      · have := hend.add s h1 (hl s h1).2 (by omega); omega
  have ready : ∀ (listed : Array Bool), listed.size = ops.size → Region.ready .any ops listed = [] → ∀ i, i < ops.size → listed.getD i false = true := by
    intro listed hsz hnil i
    induction i using Nat.strongRecOn with
    | _ i ih =>
      intro hi
      cases hl : listed.getD i false with
      | true => rfl
      | false =>
        exfalso
        have : i ∈ Region.ready .any ops listed := by
          refine mem_ready.2 ⟨?_, ops[i], Array.getElem?_eq_getElem hi, fun e he hb => ?_⟩
          · rw [Array.getD_eq_getD_getElem?, Array.getElem?_eq_getElem (by omega)] at hl ⊢
            simpa using hl
          · have hanc := hA.in_ i ops[i] (by rw [Array.getElem?_toList]; exact Array.getElem?_eq_getElem hi) e he hb
            have := lt i hi _ hanc
            exact ih _ this (by omega)
        rw [hnil] at this
        cases this
  intro fuel
  induction fuel with
  | zero =>
    intro listed a w hsz hc hinv
    have hall : ∀ i, i < ops.size → listed.getD i false = true := by
      intro i hi
      have h0 : listed.toList.count false = 0 := by omega
      have h1 := List.count_eq_zero.1 h0
      cases hl : listed.getD i false with
      | true => rfl
      | false =>
        exfalso
        apply h1
        rw [Array.getD_eq_getD_getElem?, Array.getElem?_eq_getElem (by omega)] at hl
        simp at hl
        rw [← hl]
        simp
    refine ⟨?_, fin listed a w hsz hinv hall⟩
    apply List.eq_nil_iff_forall_not_mem.2
    intro i hi
    obtain ⟨h1, o, h2, _⟩ := mem_ready.1 hi
    have hi' : i < ops.size := (Array.getElem?_eq_some_iff.1 h2).1
    have := hall i hi'
    rw [Array.getD_eq_getD_getElem?, Array.getElem?_eq_getElem (by omega)] at h1 this
    simp at h1 this
    rw [h1] at this
    cases this
  | succ fuel ih =>
    intro listed a w hsz hc hinv
    refine ⟨fun hnil => fin listed a w hsz hinv (ready listed hsz hnil), fun i hi => ?_⟩
    obtain ⟨h1, o, h2, h3⟩ := mem_ready.1 hi
    have hi' : i < ops.size := (Array.getElem?_eq_some_iff.1 h2).1
    have h1' : listed.getD i false = false := by
      rw [Array.getD_eq_getD_getElem?, Array.getElem?_eq_getElem (by omega)] at h1 ⊢
      simpa using h1
    refine Inv.step hT hP hr hi' h1' (fun j hj => ?_) hinv fun a' w' hinv' => ih _ a' w' (by simpa using hsz) ?_ ?_
    · obtain ⟨e, he, hb, hor⟩ := hA.out i o (by rw [Array.getElem?_toList]; exact h2) j hj
      have hd := h3 e he hb
      rcases hor with rfl | hor
      · exact hd
      · exact hinv.closed _ _ hd hor
    · have := count_set (by omega) h1'
      omega
    · have : (fun k => (listed.setIfInBounds i true).getD k false) = fun k => listed.getD k false || Nat.beq k i := by
        funext k
        rw [Array.getD_eq_getD_getElem?, Array.getD_eq_getD_getElem?, Array.getElem?_setIfInBounds]
        by_cases hk : i = k
        · subst hk
          rw [if_pos rfl, if_pos (by omega)]
          simp
        · have : Nat.beq k i = false := by
            cases hb : Nat.beq k i with
            | false => rfl
            | true => exact absurd (Nat.eq_of_beq_eq_true hb).symm hk
          simp [hk, this]
      rw [this]
      exact hinv'

/-- THE RULE -/
theorem draw_rule (hT : TabOk P T) (hP : SpecsOk P T) (hm : P.follows .mixedOrders = true) {m id : Nat} {st : St} {K : St → Prop} (h : exD T ops st K) : DrawG P m id ops st K := by
  refine .mk fun E0 Q E a hU hs hf hc => ?_
  obtain ⟨As, h, hA⟩ := ancOk h
  rw [fWs_eq] at h
  obtain ⟨rs, stn, hr, hk⟩ := exM_run ops.toList 0 lits [] [] (by simp) lits_eq (fun s hs => by cases hs) h
  refine wp_region_any hm ?_
  refine any_ok hT hP hA hr hk (fun st' E' a' h1 h2 h3 => hc _ _ _ _ ⟨rfl, h3⟩ h1 h2) ops.size _ a _ (by simp) (by simp [List.count_replicate]) ⟨⟨st, drawE E, rfl, hs.draw, hf.draw, rfl, fun t => ?_, fun b => ?_, fun b hb => .inl (hs.U b hb)⟩, fun k j hk => ?_⟩
  · refine (foldS_none fun s _ h => ?_).symm
    exfalso
    rw [Array.getD_eq_getD_getElem?, Array.getElem?_replicate] at h
    split at h <;> simp at h
  · refine (foldS_none fun s _ h => ?_).symm
    exfalso
    rw [Array.getD_eq_getD_getElem?, Array.getElem?_replicate] at h
    split at h <;> simp at h
  · exfalso
    simp only [Array.getD_eq_getD_getElem?, Array.getElem?_replicate] at hk
    split at hk <;> simp at hk

end
end Go.Fw

/- The table of types, checked by one computation. -/
namespace Go.Fw
set_option linter.unusedVariables false
set_option linter.unusedSimpArgs false

inductive TTree where
  | leaf
  | node (k : Nat) (ti : TI) (l r : TTree)

def TTree.get (t : Nat) : TTree → Option TI
  | .leaf => none
  | .node k ti l r => match Nat.beq t k with
    | true => some ti
    | false => match Nat.ble t k with | true => l.get t | false => r.get t

def zeros (k : IntKind) (vs : List Value) : Bool := vs.all fun v => match v with | .int k' m => decide (k' = k) && decide (m = 0) | _ => false

def crZ : Ty → List Value → Bool
  | .int k, vs => Nat.beq vs.length 1 && zeros k vs
  | .ints k n, vs => Nat.beq vs.length n && zeros k vs
  | .bool, vs => match vs with | [.bool b] => !b | _ => false
  | .str, vs => match vs with | [.string s] => decide (s = ByteArray.empty) | _ => false
  | .sl _, vs => match vs with | [.slice none n c] => Nat.beq n 0 && Nat.beq c 0 | _ => false
  | .pair a b, vs => crZ a (vs.take a.size) && crZ b (vs.drop a.size)

def nilV (a b : Value) : Bool := match a, b with
  | .pointer none, .pointer none => true
  | .nilFunc, .nilFunc => true
  | .nilIface, .nilIface => true
  | .map none, .map none => true
  | .slice none n c, .slice none n' c' => decide (n = n') && decide (c = c')
  | .int k n, .int k' n' => decide (k = k') && decide (n = n')
  | .bool b, .bool b' => b == b'
  | .string s, .string s' => decide (s = s')
  | _, _ => false

def irZ : List Cell → List Value → Bool
  | [], vs => vs.isEmpty
  | c :: cs, vs => match c with
    | .imm a => (match vs with | v :: vs => nilV a v && irZ cs vs | [] => false)
    | .run k n l => Nat.beq (vs.take n).length n && zeros k (vs.take n) && decide (l = List.replicate n 0) && irZ cs (vs.drop n)
    | .ro t l => (match l, vs with | [], .slice none n c :: vs => Nat.beq n 0 && Nat.beq c 0 && irZ cs vs | _, _ => false)
    | _ => false

def chkFields (P : Program) : List (TypeId × Nat) → List Field → Bool
  | [], [] => true
  | (u, o) :: fs, f :: F => Nat.beq f.type u && Nat.beq f.offset o && (P.info? f.type).isSome && chkFields P fs F
  | _, _ => false
def chkDesc (P : Program) (t : TypeId) (d : TD) : Bool := match d, P.underlying t with
  | .int k, some (.int k') => decide (k' = k)
  | .bool, some .bool => true
  | .str, some .string => true
  | .slice e, some (.slice e') => Nat.beq e' e
  | .struct fs, some (.struct F) => chkFields P fs F.toList
  | .array n e, some (.array n' e') => Nat.beq n' n && Nat.beq e' e
  | .ptr e, some (.pointer e') => Nat.beq e' e
  | .iface, some (.interface _) => true
  | .map k e, some (.map k' e') => Nat.beq k' k && Nat.beq e' e
  | .other, some d => !isAggD d
  | _, _ => false
def chkCmp (P : Program) (t : TypeId) (ti : TI) : Bool := match ti.cmp with | true => cmpOk P ti.ety t | false => true
def notAgg : Value → Bool
  | .agg _ => false
  | _ => true
theorem notAgg_ok {z : Value} (h : notAgg z = true) : z.cells.toList = [z] := by cases z <;> first | rfl | cases h
def chkTI (P : Program) (t : TypeId) (ti : TI) : Bool := chkCmp P t ti && (chkDesc P t ti.desc && match P.info? t with
  | none => false
  | some i => match i.zero with
    | none => false
    | some z => Nat.beq i.size ti.size && Nat.beq i.bytes ti.bytes && irZ ti.zero z.cells.toList && Nat.beq z.cells.size ti.size && (ti.isAgg || notAgg z) &&
      match ti.ety with
      | none => true
      | some u => Nat.beq u.size ti.size && crZ u z.cells.toList)
def chkTree (P : Program) : TTree → Bool
  | .leaf => true
  | .node k ti l r => chkTI P k ti && chkTree P l && chkTree P r

theorem zeros_eq {k : IntKind} : ∀ {vs : List Value}, zeros k vs = true → vs = (List.replicate vs.length (0 : Int)).map (.int k)
  | [], _ => rfl
  | v :: vs, h => by
    simp only [zeros, List.all_cons, Bool.and_eq_true] at h
    obtain ⟨h1, h2⟩ := h
    have := zeros_eq (vs := vs) h2
    cases v with
    | int k' m =>
      simp only [Bool.and_eq_true, decide_eq_true_eq] at h1
      obtain ⟨rfl, rfl⟩ := h1
      simp only [List.length_cons, List.replicate_succ, List.map_cons]
      rw [← this]
    | _ => simp at h1

theorem crZ_ok {w : World} {S : Nat → Prop} : ∀ {u : Ty} {vs : List Value}, crZ u vs = true → CR w S u (dflt u) vs
  | .int k, vs, h => by
    simp only [crZ, Bool.and_eq_true] at h
    have h1 := Nat.eq_of_beq_eq_true h.1
    have h2 := zeros_eq h.2
    rw [h1] at h2
    show vs = [.int k 0]
    simpa using h2
  | .ints k n, vs, h => by
    simp only [crZ, Bool.and_eq_true] at h
    have h1 := Nat.eq_of_beq_eq_true h.1
    have h2 := zeros_eq h.2
    rw [h1] at h2
    exact ⟨by simp [dflt], h2⟩
  | .bool, vs, h => by
    unfold crZ at h
    split at h
    · simp at h; subst h; rfl
    · cases h
  | .str, vs, h => by
    unfold crZ at h
    split at h
    · simp at h; subst h; rfl
    · cases h
  | .sl t, vs, h => by
    unfold crZ at h
    split at h
    · simp only [Bool.and_eq_true] at h
      have h1 := Nat.eq_of_beq_eq_true h.1
      have h2 := Nat.eq_of_beq_eq_true h.2
      subst h1; subst h2
      exact ⟨_, rfl, none, 0, rfl, Nat.le_refl _, fun hne => absurd rfl hne⟩
    · cases h
  | .pair a b, vs, h => by
    simp only [crZ, Bool.and_eq_true] at h
    exact ⟨vs.take a.size, vs.drop a.size, by simp, crZ_ok h.1, crZ_ok h.2⟩

theorem nilV_ok {a b : Value} (h : nilV a b = true) : b = a ∧ a.oneCell' = true := by
  unfold nilV at h
  split at h <;> (try simp only [Bool.and_eq_true, decide_eq_true_eq, beq_iff_eq] at h)
  · exact ⟨rfl, rfl⟩
  · exact ⟨rfl, rfl⟩
  · exact ⟨rfl, rfl⟩
  · exact ⟨rfl, rfl⟩
  · obtain ⟨rfl, rfl⟩ := h; exact ⟨rfl, rfl⟩
  · obtain ⟨rfl, rfl⟩ := h; exact ⟨rfl, rfl⟩
  · subst h; exact ⟨rfl, rfl⟩
  · subst h; exact ⟨rfl, rfl⟩
  · cases h

theorem irZ_ok {E : Env} : ∀ {cs : List Cell} {vs : List Value}, irZ cs vs = true → IR E cs vs
  | [], vs, h => by
    show vs = []
    simpa [irZ] using h
  | c :: cs, vs, h => by
    unfold irZ at h
    split at h
    · split at h
      · rename_i a v vs
        rw [Bool.and_eq_true] at h
        obtain ⟨h1, h2⟩ := h
        obtain ⟨rfl, h3⟩ := nilV_ok h1
        exact ⟨[_], _, rfl, ⟨rfl, h3⟩, irZ_ok h2⟩
      · cases h
    · rename_i k n l
      simp only [Bool.and_eq_true, decide_eq_true_eq] at h
      obtain ⟨⟨⟨h1, h2⟩, rfl⟩, h4⟩ := h
      have h1 := Nat.eq_of_beq_eq_true h1
      have h2 := zeros_eq h2
      rw [h1] at h2
      exact ⟨vs.take n, vs.drop n, by simp, ⟨by simp, h2⟩, irZ_ok h4⟩
    · split at h
      · simp only [Bool.and_eq_true] at h
        obtain ⟨⟨h1, h2⟩, h3⟩ := h
        have h1 := Nat.eq_of_beq_eq_true h1
        have h2 := Nat.eq_of_beq_eq_true h2
        subst h1; subst h2
        exact ⟨[_], _, rfl, ⟨_, rfl, none, 0, rfl, Nat.le_refl _, fun hne => absurd rfl hne⟩, irZ_ok h3⟩
      · cases h
    · cases h

theorem chkFields_ok {P : Program} : ∀ {fs : List (TypeId × Nat)} {F : List Field}, chkFields P fs F = true →
    (∀ (i : Nat) u o, fs[i]? = some (u, o) → ∃ f : Field, F[i]? = some f ∧ f.type = u ∧ f.offset = o) ∧ ∀ f ∈ F, ∃ i, P.info? f.type = some i
  | [], [], _ => ⟨fun i u o h => by simp at h, fun f h => by cases h⟩
  | (u, o) :: fs, f :: F, h => by
    simp only [chkFields, Bool.and_eq_true] at h
    obtain ⟨⟨⟨h1, h2⟩, h3⟩, h4⟩ := h
    obtain ⟨h5, h6⟩ := chkFields_ok h4
    refine ⟨fun i u' o' hi => ?_, fun f' hf => ?_⟩
    · cases i with
      | zero =>
        simp at hi
        obtain ⟨rfl, rfl⟩ := hi
        exact ⟨f, rfl, Nat.eq_of_beq_eq_true h1, Nat.eq_of_beq_eq_true h2⟩
      | succ i => exact h5 i u' o' (by simpa using hi)
    · rcases List.mem_cons.1 hf with rfl | hf
      · exact Option.isSome_iff_exists.1 h3
      · exact h6 f' hf
  | [], _ :: _, h => by cases h
  | _ :: _, [], h => by simp [chkFields] at h

theorem chkTI_ok {P : Program} {t : TypeId} {ti : TI} (h : chkTI P t ti = true) : TyOk P t ti := by
  unfold chkTI at h
  rw [Bool.and_eq_true, Bool.and_eq_true] at h
  obtain ⟨h0, h1, h2⟩ := h
  refine ⟨?_, ?_, fun hc => by unfold chkCmp at h0; rw [hc] at h0; exact h0, fun hag i z hi hz => ?_⟩
  · unfold chkDesc at h1
    split at h1 <;> rename_i hd hu <;> simp only [DescOk, hd]
    · simp only [decide_eq_true_eq] at h1; subst h1; exact hu
    · exact hu
    · exact hu
    · have := Nat.eq_of_beq_eq_true h1; subst this; exact hu
    · obtain ⟨h3, h4⟩ := chkFields_ok h1
      refine ⟨_, hu, fun i u o hi => ?_, fun f hf => h4 f (by simpa using hf)⟩
      obtain ⟨f, h5, h6⟩ := h3 i u o hi
      exact ⟨f, by rw [← Array.getElem?_toList]; exact h5, h6⟩
    · rw [Bool.and_eq_true] at h1
      have e1 := Nat.eq_of_beq_eq_true h1.1
      have e2 := Nat.eq_of_beq_eq_true h1.2
      subst e1; subst e2; exact hu
    · have := Nat.eq_of_beq_eq_true h1; subst this; exact hu
    · exact ⟨_, hu⟩
    · rw [Bool.and_eq_true] at h1
      have e1 := Nat.eq_of_beq_eq_true h1.1
      have e2 := Nat.eq_of_beq_eq_true h1.2
      subst e1; subst e2; exact hu
    · exact ⟨_, hu, by simpa using h1⟩
    · cases h1
  · split at h2
    · cases h2
    · rename_i i hi
      split at h2
      · cases h2
      · rename_i z hz
        simp only [Bool.and_eq_true] at h2
        obtain ⟨⟨⟨⟨⟨e1, e2⟩, e3⟩, e4⟩, _⟩, e5⟩ := h2
        refine ⟨i, z, hi, Nat.eq_of_beq_eq_true e1, Nat.eq_of_beq_eq_true e2, hz, fun E => irZ_ok e3, Nat.eq_of_beq_eq_true e4, fun u hu => ?_⟩
        rw [hu] at e5
        simp only [Bool.and_eq_true] at e5
        exact ⟨Nat.eq_of_beq_eq_true e5.1, fun w S => crZ_ok e5.2⟩
  · rw [hi] at h2
    simp only [hz, Bool.and_eq_true, Bool.or_eq_true] at h2
    rcases h2.1.2 with h | h
    · rw [hag] at h; cases h
    · exact notAgg_ok h

theorem chkTree_ok {P : Program} : ∀ {T : TTree}, chkTree P T = true → ∀ t ti, T.get t = some ti → TyOk P t ti
  | .leaf, _, t, ti, h => by cases h
  | .node k ti l r, h, t, ti', hg => by
    simp only [chkTree, Bool.and_eq_true] at h
    unfold TTree.get at hg
    split at hg
    · rename_i hb
      injection hg with hg
      subst hg
      rw [Nat.eq_of_beq_eq_true hb]
      exact chkTI_ok h.1.1
    · split at hg
      · exact chkTree_ok h.1.2 t ti' hg
      · exact chkTree_ok h.2 t ti' hg

def fnOf (f : Nat) : List (Nat × CSpec) → Option CSpec
  | [] => none
  | (g, s) :: r => match Nat.beq f g with | true => some s | false => fnOf f r
def tab (T : TTree) (fs : List (Nat × CSpec)) : Tab := { ty := fun t => T.get t, fn := fun f => fnOf f fs, meth := fun _ _ => none }
theorem tab_ok {P : Program} {T : TTree} {fs : List (Nat × CSpec)} (h : chkTree P T = true) : TabOk P (tab T fs) :=
  ⟨chkTree_ok h, fun t name f hm => by cases hm⟩
def GoodF (P : Program) (f : Nat) (s : CSpec) : Prop := CSound P f s ∧ Enters P f
theorem specs_nil {P : Program} {T : TTree} : SpecsOk P (tab T []) := fun f s h => by cases h
theorem specs_cons {P : Program} {T : TTree} {fs : List (Nat × CSpec)} {g : Nat} {s : CSpec} (h : GoodF P g s) (hr : SpecsOk P (tab T fs)) : SpecsOk P (tab T ((g, s) :: fs)) := by
  intro f s' hs
  have hs : fnOf f ((g, s) :: fs) = some s' := hs
  unfold fnOf at hs
  split at hs
  · rename_i hb
    injection hs with hs
    subst hs
    rw [Nat.eq_of_beq_eq_true hb]
    exact h
  · exact hr f s' hs

end Go.Fw

/- Small rules for proofs by evaluation. -/
namespace Go.Fw
set_option linter.unusedVariables false
set_option linter.unusedSimpArgs false

/-- evaluate here, once -/
inductive Go (q : Prop) : Prop where
  | mk : q → Go q
theorem Go.out {q : Prop} (h : Go q) : q := by cases h; assumption

theorem NilG.go {A X B Y : Prop} (h1 : A → Go X) (h2 : B → Go Y) : NilG A X B Y := ⟨fun h => (h1 h).out, fun h => (h2 h).out⟩
theorem Need.go {p q : Prop} (h1 : p) (h2 : Go q) : Need p q := ⟨h1, h2.out⟩
theorem Br.go {b : Bool} {x y : Prop} (h1 : b = true → Go x) (h2 : b = false → Go y) : Br b x y := Br.mk (fun h => (h1 h).out) (fun h => (h2 h).out)
theorem Br.dec {p : Prop} [Decidable p] {x y : Prop} (h1 : p → Go x) (h2 : ¬ p → Go y) : Br (decide p) x y :=
  Br.mk (fun h => (h1 (of_decide_eq_true h)).out) (fun h => (h2 (of_decide_eq_false h)).out)

def fAVL : List AV → (List AV → Prop) → Prop
  | [], k => k []
  | c :: cs, k => fAV c fun c => fAVL cs fun cs => k (c :: cs)
def fOBL : List (Option Blk) → (List (Option Blk) → Prop) → Prop
  | [], k => k []
  | c :: cs, k => fOB c fun c => fOBL cs fun cs => k (c :: cs)
def fState (s : St) (k : St → Prop) : Prop := fAVL s.tmps fun t => fOBL s.heap fun h => k { tmps := t, heap := h }
theorem fAVL_eq : ∀ (l : List AV) (k : List AV → Prop), fAVL l k = k l
  | [], k => rfl
  | n :: ns, k => by unfold fAVL; rw [fAV_eq, fAVL_eq ns]
theorem fOBL_eq : ∀ (l : List (Option Blk)) (k : List (Option Blk) → Prop), fOBL l k = k l
  | [], k => rfl
  | n :: ns, k => by unfold fOBL; rw [fOB_eq, fOBL_eq ns]
theorem fState_eq (s : St) (k : St → Prop) : fState s k = k s := by unfold fState; rw [fAVL_eq, fOBL_eq]

-- operations once more, by the recursor itself

def stepM (T : Tab) (ops : Array Oper) (As : List (List Bool)) (efs : List W1) (o : Oper) (i : Nat) (own : List (Nat × Nat × Nat)) (st : St) (K : List (Nat × Nat × Nat) → St → Prop) : Prop :=
    match lenLe (getL As i) i && dstSeen i o ops.toList As (getL As i) with
    | false => False
    | true => fWs (incL i efs As (getL As i) lits) fun inc =>
      match guardTmp ops o with
      | none => False
      | some none => withName lits st.heap st.heap.length fun nm =>
        doM T o (fun t => hideT i t ops.toList As (getL As i) lits) (fun b => hideB inc (getL As i) b own) (getW efs i) nm st fun st' add => K (ownAdd own i nm add) st'
      | some (some (d, want)) => match evHide st (fun t => hideT i t ops.toList As (getL As i) lits) (.tmp d) with
        | .one (.c (.imm (.bool b))) => Br b
          (fSt (st.put (some d) (.cell (bv true))) fun st => match want with
            | true => withName lits st.heap st.heap.length fun nm =>
              doM T o (fun t => hideT i t ops.toList As (getL As i) lits) (fun b => hideB inc (getL As i) b own) (getW efs i) nm st fun st' add => K (ownAdd own i nm add) st'
            | false => fSt (st.put o.dst (.tup [])) fun st => K own st)
          (fSt (st.put (some d) (.cell (bv false))) fun st => match want with
            | false => withName lits st.heap st.heap.length fun nm =>
              doM T o (fun t => hideT i t ops.toList As (getL As i) lits) (fun b => hideB inc (getL As i) b own) (getW efs i) nm st fun st' add => K (ownAdd own i nm add) st'
            | true => fSt (st.put o.dst (.tup [])) fun st => K own st)
        | .tup [] => fSt (st.put o.dst (.tup [])) fun st => K own st
        | _ => False
def exMR (T : Tab) (ops : Array Oper) (As : List (List Bool)) (efs : List W1) (l : List Oper) : List Nat → List (Nat × Nat × Nat) → St → (St → Prop) → Prop :=
  List.rec (motive := fun _ => List Nat → List (Nat × Nat × Nat) → St → (St → Prop) → Prop) (fun _ _ st K => K st) (fun o _ ih is own st K => match is with | [] => False | i :: is => stepM T ops As efs o i own st fun own' st' => ih is own' st' K) l
theorem exMR_eq (T : Tab) (ops : Array Oper) (As : List (List Bool)) (efs : List W1) : ∀ (l : List Oper) (is : List Nat) (own : List (Nat × Nat × Nat)) (st : St) (K : St → Prop), exMR T ops As efs l is own st K = exM T ops As efs l is own st K
  | [], is, own, st, K => by cases is <;> rfl
  | o :: r, [], own, st, K => rfl
  | o :: r, i :: is, own, st, K => by
    show stepM T ops As efs o i own st (fun own' st' => exMR T ops As efs r is own' st' K) = exM T ops As efs (o :: r) (i :: is) own st K
    have e : (fun own' st' => exMR T ops As efs r is own' st' K) = fun own' st' => exM T ops As efs r is own' st' K := funext fun own' => funext fun st' => exMR_eq T ops As efs r is own' st' K
    rw [e]
    rfl
def exDR (T : Tab) (ops : Array Oper) (st : St) (K : St → Prop) : Prop :=
  withAncs ops.toList [] fun As => fWs (effs T st [] ops.toList) fun efs => exMR T ops As efs ops.toList lits [] st K
theorem exDR_eq (T : Tab) (ops : Array Oper) (st : St) (K : St → Prop) : exDR T ops st K = exD T ops st K := by
  unfold exDR exD
  simp only [exMR_eq]

def stepO (T : Tab) (ops : Array Oper) (o : Oper) (st : St) (K : St → Prop) : Prop := match guardTmp ops o with
    | none => False
    | some none => withName lits st.heap st.heap.length fun nm => doOp T o nm st K
    | some (some (d, want)) => match st.tmp d with
      | .one (.c (.imm (.bool b))) => Br b
          (match want with
            | true => fSt (st.put (some d) (.cell (bv true))) fun st => withName lits st.heap st.heap.length fun nm => doOp T o nm st K
            | false => fSt ((st.put (some d) (.cell (bv true))).put o.dst (.tup [])) K)
          (match want with
            | false => fSt (st.put (some d) (.cell (bv false))) fun st => withName lits st.heap st.heap.length fun nm => doOp T o nm st K
            | true => fSt ((st.put (some d) (.cell (bv false))).put o.dst (.tup [])) K)
      | .tup [] => fSt (st.put o.dst (.tup [])) K
      | _ => False
def exOpsR (T : Tab) (ops : Array Oper) (l : List Oper) : St → (St → Prop) → Prop :=
  List.rec (motive := fun _ => St → (St → Prop) → Prop) (fun st K => K st) (fun o _ ih st K => stepO T ops o st fun st' => ih st' K) l
theorem exOpsR_eq (T : Tab) (ops : Array Oper) : ∀ (l : List Oper) (st : St) (K : St → Prop), exOpsR T ops l st K = exOps T ops l st K
  | [], st, K => rfl
  | o :: r, st, K => by
    show stepO T ops o st (fun st' => exOpsR T ops r st' K) = exOps T ops (o :: r) st K
    have e : (fun st' => exOpsR T ops r st' K) = fun st' => exOps T ops r st' K := funext fun st' => exOpsR_eq T ops r st' K
    rw [e]
    rfl

-- the evaluator of code once more, by the recursor itself: the kernel then meets the same terms as the elaborator (with 'ex' it does not, and compares long)

def seqK (iy : St → Cont → Prop) (K : Cont) : Cont := fun e st' => match e with
  | .normal => iy st' K
  | .exit i => K (.exit i) st'
  | .ret => K .ret st'
  | _ => False
def blockK (id : Nat) (K : Cont) : Cont := fun e st' => match e with
  | .normal => K .normal st'
  | .exit i => (match Nat.beq i id with | true => K .normal st' | false => K (.exit i) st')
  | .ret => K .ret st'
  | _ => False
def xCond (c : Operand) (ix iy : St → Cont → Prop) (st : St) (K : Cont) : Prop := match st.eval c with
  | .one (.c (.imm (.bool b))) => Br b (fSt (putB st c true) fun st => ix st K) (fSt (putB st c false) fun st => iy st K)
  | _ => False
def xRegion (P : Program) (T : Tab) (m : Nat) (id : Nat) (ops : Array Oper) (d : Bool) (st : St) (K : Cont) : Prop := match d with
  | false => exOpsR T ops ops.toList st fun st' => K .normal st'
  | true => DrawG P m id ops st fun st' => K .normal st'
def exR (P : Program) (T : Tab) (m : Nat) (c : Code) : St → Cont → Prop :=
  Code.rec (motive := fun _ => St → Cont → Prop) (fun st K => K .normal st) (fun id ops d st K => xRegion P T m id ops d st K) (fun _ _ ix iy st K => ix st (seqK iy K)) (fun c _ _ ix iy st K => xCond c ix iy st K)
    (fun id _ ic st K => ic st (blockK id K)) (fun c _ st K => LoopG P m c st K) (fun _ _ _ _ _ _ _ _ => False) (fun i st K => K (.exit i) st) (fun _ _ _ _ => False) (fun _ st K => K .normal st) (fun _ _ _ => False)
    (fun st K => K .ret st) (fun _ _ _ => False) c
theorem exR_eq (P : Program) (T : Tab) (m : Nat) : ∀ (c : Code) (st : St) (K : Cont), exR P T m c st K = ex P T m c st K := by
  intro c
  induction c with
  | seq x y ihx ihy =>
    intro st K
    show exR P T m x st (seqK (exR P T m y) K) = ex P T m x st _
    rw [ihx]
    congr 1
    funext e st'
    cases e <;> simp only [seqK, ihy]
  | cond c x y ihx ihy =>
    intro st K
    show xCond c (exR P T m x) (exR P T m y) st K = ex P T m (.cond c x y) st K
    have e1 : (fun st => exR P T m x st K) = fun st => ex P T m x st K := funext fun st => ihx st K
    have e2 : (fun st => exR P T m y st K) = fun st => ex P T m y st K := funext fun st => ihy st K
    unfold xCond
    rw [e1, e2]
    rfl
  | block id c ih =>
    intro st K
    show exR P T m c st (blockK id K) = ex P T m (.block id c) st K
    rw [ih]
    rfl
  | region id ops d =>
    intro st K
    show xRegion P T m id ops d st K = ex P T m (.region id ops d) st K
    cases d with
    | false => exact exOpsR_eq T ops _ _ _
    | true => rfl
  | _ => intro st K; rfl

def startR (P : Program) (T : Tab) (fn : Func) (args : List V1) (bl : List Blk) (r : AV) (upd : List (Option Blk)) (fresh : List Blk) : Prop := match fn.body with
  | some c => fV1s args fun args => fBlks bl fun bl => fSt (st0 fn.ntmps args bl) fun st => exR P T bl.length c st (EndK P T bl.length fn r upd fresh)
  | none => False
theorem startR_eq (P : Program) (T : Tab) (fn : Func) (args : List V1) (bl : List Blk) (r : AV) (upd : List (Option Blk)) (fresh : List Blk) : startR P T fn args bl r upd fresh = startC P T fn args bl r upd fresh := by
  unfold startR startC
  cases fn.body with
  | some c => simp only [exR_eq]
  | none => rfl

section
variable {P : Program} {T : Tab}
theorem does_go (hT : TabOk P T) (hP : SpecsOk P T) {m : Nat} {c : Code} {st : St} {K : Cont} (h : Go (fState st fun st => exR P T m c st K)) : Does P m c st K := by
  have := h.out
  rw [fState_eq, exR_eq] at this
  exact ex_sound hT hP c this
theorem draw_go (hT : TabOk P T) (hP : SpecsOk P T) (hm : P.follows .mixedOrders = true) {m id : Nat} {st : St} {ops : Array Oper} {K : St → Prop} (h : Go (exDR T ops st K)) : DrawG P m id ops st K := draw_rule hT hP hm (by have := h.out; rwa [exDR_eq] at this)
theorem round_go (hT : TabOk P T) (hP : SpecsOk P T) {m n : Nat} {c : Code} {st : St} {K : Cont} (h : Go (fState st fun st => exR P T m c st fun e st' => match e with | .normal => RoundG P m c K n st' | e => K e st')) : RoundG P m c K (n + 1) st := round_ (does_go hT hP h)
theorem loop_go (hT : TabOk P T) (hP : SpecsOk P T) {X : Type} {m : Nat} {c : Code} {st : St} {K : Cont} (S : X → St) (I : X → Prop) (μ : X → Nat) (x0 : X) (h0 : Le m st (S x0)) (hI : I x0)
    (h : ∀ x, I x → Go (fState (S x) fun st => exR P T m c st fun e st' => match e with | .normal => ∃ x', I x' ∧ μ x' < μ x ∧ Le m st' (S x') | e => K e st')) : LoopG P m c st K :=
  loop_rule S I μ x0 h0 hI fun x hx => does_go hT hP (h x hx)
theorem PSpec.good {f : FuncId} {fn : Func} (hT : TabOk P T) (hP : SpecsOk P T) (hf : P.funcs[f]? = some fn) (hn : (fn.name == "runtime.NumGoroutine") = false) (s : PSpec) (hb : fn.body.isSome = true)
    (h : AllArgs s.gs fun xs => (∀ q, (s.out xs).1 = some q → q) → Go (startR P T fn (canonArgs s.gs xs) [] (s.out xs).2.1 [] (s.out xs).2.2)) : GoodF P f s.spec := by
  refine PSpec.sound hT hP hf hn s ?_ hb
  have : ∀ (gs : List Sig) (p q : Args gs → Prop), (∀ x, p x → q x) → AllArgs gs p → AllArgs gs q := by
    intro gs
    induction gs with
    | nil => intro p q h h1; exact h () h1
    | cons g gs ih => intro p q h h1 a; exact ih _ _ (fun r => h (a, r)) (h1 a)
  exact this _ _ _ (fun x hx hp => by have := (hx hp).out; rwa [startR_eq] at this) h
end

theorem Le.trans {m : Nat} {a b c : St} (h1 : Le m a b) (h2 : Le m b c) : Le m a c := by
  intro E0 E ac hm hs hf
  obtain ⟨E1, e1, s1, f1⟩ := h1 E0 E ac hm hs hf
  obtain ⟨E2, e2, s2, f2⟩ := h2 E0 E1 ac hm s1 f1
  exact ⟨E2, e2.trans e1, s2, f2⟩

/-- a nil slice, taken for one of one's own -/
theorem Le.nil {m : Nat} {st : St} (i : Nat) (t : Ty) (h : st.tmps[i]? = some (.imm (.slice none 0 0))) : Le m st { tmps := st.tmps.set i (.cell (.own st.heap.length)), heap := setAt st.heap st.heap.length (some (.arr t [])) } := by
  intro E0 E a hm hs hf
  have hU : ¬ E.U st.heap.length := fun hu => by have := hs.U _ hu; omega
  have hstep : Step E { pre := none, val := .cell (.own st.heap.length), add := [.arr t []], set := [] } st.heap.length (nilE E [] st.heap.length t) := Step.nil (us := []) hs.ok rfl rfl hU
  obtain ⟨v, hv1, hv2⟩ := hs.tmp i _ h
  obtain ⟨e, _⟩ := hv2
  injection e with e
  subst e
  have hsim := hs.step (dst := some i) hstep (nilE_own E [] st.heap.length t)
  refine ⟨nilE E [] st.heap.length t, rfl, ?_, hf.step hstep⟩
  have ha : a.put (some i) (.slice none 0 0) = a := by
    obtain ⟨tm, df⟩ := a
    simp only [Act.put, Act.mk.injEq, and_true]
    apply Array.ext_getElem?
    intro j
    rw [Array.getElem?_setIfInBounds]
    by_cases hj : i = j
    · subst hj
      have hv1 : tm[i]? = some (.slice none 0 0) := hv1
      rw [hv1]
      simp
      exact (Array.getElem?_eq_some_iff.1 hv1).1
    · simp [hj]
  rw [ha] at hsim
  exact hsim

theorem imax_eq (x y : Int) : imax x y = max x y := by unfold imax; omega
theorem imin_eq (x y : Int) : imin x y = min x y := by unfold imin; omega
theorem imm_int {k : IntKind} {n m : Int} (h : n = m) : AV.one (V1.c (.imm (.int k n))) = AV.one (V1.c (.imm (.int k m))) := by rw [h]
theorem imm_bool {n m : Bool} (h : n = m) : AV.one (V1.c (.imm (.bool n))) = AV.one (V1.c (.imm (.bool m))) := by rw [h]
end Go.Fw

