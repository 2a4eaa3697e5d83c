/- From the body of a function to its contract. -/
import Derived.Test.YtblnigjmcjpopaaFw22
namespace Go.Fw
set_option linter.unusedVariables false
set_option linter.unusedSimpArgs false

def resOne (T : Tab) (st : St) : ResultVar → Option AV
  | .tmp t => some (st.tmp t)
  | .cell a t => match loadA T st.look t (st.tmp a) with
    | some r => (match r.pre with | none => some r.val | some _ => none)
    | none => none
def resAll (T : Tab) (st : St) : List ResultVar → Option AV
  | [r] => resOne T st r
  | l => match mapO (resOne T st) l with
    | some vs => (match ones vs with | some xs => some (.tup xs) | none => none)
    | none => none

-- a nil slice in what is handed back becomes one of one's own

def noCs (nm : Nat) : List Cell → Option (List Cell)
  | [] => none
  | c :: cs => match c with
    | .imm (.slice none 0 0) => some (.own nm :: cs)
    | c => match noCs nm cs with | some r => some (c :: r) | none => none
def noV (nm : Nat) : V1 → Option V1
  | .c c => match c with | .imm (.slice none 0 0) => some (.c (.own nm)) | _ => none
  | .agg cs => match noCs nm cs with | some r => some (.agg r) | none => none
def noVs (nm : Nat) : List V1 → Option (List V1)
  | [] => none
  | v :: vs => match noV nm v with
    | some w => some (w :: vs)
    | none => match noVs nm vs with | some r => some (v :: r) | none => none
def noA (nm : Nat) : AV → Option AV
  | .dead => none
  | .one v => match noV nm v with | some w => some (.one w) | none => none
  | .tup l => match noVs nm l with | some w => some (.tup w) | none => none

section
variable {E : Env} {nm : Nat} {t : Ty}
theorem no_cell {v : Value} (h : CellR E (.imm (.slice none 0 0)) [v]) : CellR (nilE E [] nm t) (.own nm) [v] := by
  obtain ⟨e, _⟩ := h
  injection e with e
  subst e
  exact nilE_own E [] nm t
theorem noCs_rel (hx : Ext E (nilE E [] nm t)) : ∀ {cs ds : List Cell} {vs : List Value}, noCs nm cs = some ds → IR E cs vs → IR (nilE E [] nm t) ds vs
  | [], _, _, h, _ => by cases h
  | c :: cs, ds, vs, h, ⟨r, s, e, h1, h2⟩ => by
    unfold noCs at h
    split at h
    · injection h with h
      subst h
      obtain ⟨e2, _⟩ := h1
      subst e2
      exact ⟨_, s, e, nilE_own E [] nm t, h2.ext hx⟩
    · split at h
      · rename_i r' hr'
        injection h with h
        subst h
        exact ⟨r, s, e, h1.ext hx, noCs_rel hx hr' h2⟩
      · cases h
theorem noV_rel (hx : Ext E (nilE E [] nm t)) {x y : V1} {v : Value} (h : noV nm x = some y) (hv : V1R E x v) : V1R (nilE E [] nm t) y v := by
  unfold noV at h
  split at h
  · split at h
    · injection h with h
      subst h
      exact no_cell hv
    · cases h
  · split at h
    · rename_i r hr
      injection h with h
      subst h
      obtain ⟨vals, e, hi⟩ := hv
      exact ⟨vals, e, noCs_rel hx hr hi⟩
    · cases h
theorem noVs_rel (hx : Ext E (nilE E [] nm t)) : ∀ {xs ys : List V1} {vs : List Value}, noVs nm xs = some ys → VsR E xs vs → VsR (nilE E [] nm t) ys vs
  | [], _, _, h, _ => by cases h
  | x :: xs, ys, vs, h, ⟨v, r, e, h1, h2⟩ => by
    unfold noVs at h
    split at h
    · rename_i w hw
      injection h with h
      subst h
      exact ⟨v, r, e, noV_rel hx hw h1, h2.ext hx⟩
    · split at h
      · rename_i r' hr'
        injection h with h
        subst h
        exact ⟨v, r, e, h1.ext hx, noVs_rel hx hr' h2⟩
      · cases h
theorem noA_rel (hx : Ext E (nilE E [] nm t)) {x y : AV} {v : Value} (h : noA nm x = some y) (hv : AVR E x v) : AVR (nilE E [] nm t) y v := by
  unfold noA at h
  split at h
  · cases h
  · split at h
    · rename_i w hw
      injection h with h
      subst h
      exact noV_rel hx hw hv
    · cases h
  · split at h
    · rename_i w hw
      injection h with h
      subst h
      obtain ⟨vs, e, hi⟩ := hv
      exact ⟨vs, e, noVs_rel hx hw hi⟩
    · cases h
theorem Back.nil {E0 : Env} {m : Nat} {r r' : AV} {upd : List (Option Blk)} {fresh : List Blk} {v : Value} (h : Back E0 m r' upd fresh v E) (t : Ty) (hr : noA (m + fresh.length) r' = some r) :
    Back E0 m r upd (fresh ++ [.arr t []]) v (nilE E [] (m + fresh.length) t) := by
  have hU : ¬ E.U (m + fresh.length) := fun hu => by have := (h.U _).1 hu; omega
  have st : Step E { pre := none, val := .dead, add := [.arr t []], set := [] } (m + fresh.length) (nilE E [] (m + fresh.length) t) := Step.nil (us := []) h.ok rfl rfl hU
  refine ⟨noA_rel st.ext hr h.val, st.ok, fun b => ?_, fun b => ?_, h.ext.trans st.ext, st.fr _ h.fr⟩
  · show (if b = m + fresh.length then some (Blk.arr t []) else if b ∈ ([] : List Nat) then none else E.H b) = _
    rw [if_neg (List.not_mem_nil), h.H b]
    by_cases h1 : b = m + fresh.length
    · subst h1
      rw [if_pos rfl, if_neg (by omega), List.getElem?_append_right (by omega)]
      simp
    · rw [if_neg h1]
      by_cases h2 : b < m
      · rw [if_pos h2, if_pos h2]
      · rw [if_neg h2, if_neg h2]
        by_cases h3 : b - m < fresh.length
        · rw [List.getElem?_append_left h3]
        · rw [List.getElem?_append_right (by omega), List.getElem?_eq_none (by omega), List.getElem?_eq_none (by simp; omega)]
  · show E.U b ∨ b = m + fresh.length ↔ _
    rw [h.U b, List.length_append, List.length_singleton]
    omega
end

inductive Ends (P : Program) (T : Tab) (m : Nat) (fn : Func) : AV → List (Option Blk) → List Blk → St → Prop where
  | mk {r : AV} {upd : List (Option Blk)} {fresh : List Blk} {st : St} (us acc : List Nat) (v : AV) (hr : resAll T st fn.results.toList = some v) (c1 : chkAcc m acc = true) (c2 : chkH st.look us acc acc = true)
      (c3 : inN acc (fzA st.look us v).names = true) (hu : Nat.beq upd.length m = true) (hh : wkH st.look us acc = upd ++ fresh.map some) (he : (fzA st.look us v).rn (idx acc) = r) : Ends P T m fn r upd fresh st
  | le {r : AV} {upd : List (Option Blk)} {fresh : List Blk} {st st' : St} (h : Le m st st') (h2 : Ends P T m fn r upd fresh st') : Ends P T m fn r upd fresh st
  | nil {r : AV} {upd : List (Option Blk)} {fresh : List Blk} {st : St} (t : Ty) (r' : AV) (fresh' : List Blk) (h : Ends P T m fn r' upd fresh' st) (hr : noA (m + fresh'.length) r' = some r) (hf : fresh' ++ [.arr t []] = fresh) : Ends P T m fn r upd fresh st

def EndK (P : Program) (T : Tab) (m : Nat) (fn : Func) (r : AV) (upd : List (Option Blk)) (fresh : List Blk) : Cont := fun e st => match e with
  | .normal => Ends P T m fn r upd fresh st
  | .ret => Ends P T m fn r upd fresh st
  | _ => False

section
variable {P : Program} {T : Tab}

def resRun (tmps : Array Value) : ResultVar → Sem Value
  | .tmp t => pure (tmps.getD t undef)
  | .cell p t => do loadVar t (← asAddr (tmps.getD p undef))
theorem results_eq (fn : Func) (tmps : Array Value) : results fn tmps = (do let vs ← fn.results.mapM (resRun tmps); pure (if h : vs.size = 1 then vs[0] else .tuple vs)) := by
  unfold results
  congr 1

theorem mapM_run {α : Type} (P : Program) (w : World) (f : α → Sem Value) : ∀ (l : List α) (vs : List Value), (∀ (i : Nat) x, l[i]? = some x → ∃ v, vs[i]? = some v ∧ (f x).run P w = .ok v w) → l.length = vs.length → (l.mapM f).run P w = .ok vs w
  | [], [], _, _ => by simp
  | x :: l, v :: vs, h, hl => by
    obtain ⟨v', h1, h2⟩ := h 0 x rfl
    simp at h1
    subst h1
    have := mapM_run P w f l vs (fun i y hy => h (i + 1) y (by simpa using hy)) (by simpa using hl)
    simp [List.mapM_cons, h2, this]
  | [], _ :: _, _, hl => by simp at hl
  | _ :: _, [], _, hl => by simp at hl

theorem resOne_run (hT : TabOk P T) {st : St} {E : Env} {a : Act} (hs : Sim st E a) {r : ResultVar} {x : AV} (h : resOne T st r = some x) :
    ∃ v, (resRun a.tmps r).run P E.w = .ok v E.w ∧ AVR E x v := by
  cases r with
  | tmp t =>
    simp only [resOne, Option.some.injEq] at h
    subst h
    exact ⟨_, by simp [resRun], hs.at_ t⟩
  | cell p t =>
    simp only [resOne] at h
    split at h
    · rename_i r hr
      split at h
      · rename_i hp
        injection h with h
        subst h
        obtain ⟨v, h1, h2, _, _⟩ := load_run hT hs.ok (fun b x hb => (hs.H b).trans hb) (hs.at_ p) hr (fun q hq => by rw [hp] at hq; cases hq)
        refine ⟨v, ?_, h2⟩
        unfold resRun
        simp only
        generalize a.tmps.getD p undef = va at h1 ⊢
        have hva : (∃ ad, va = .pointer (some ad)) ∨ ¬ ∃ ad, va = .pointer (some ad) := Classical.em _
        rcases hva with ⟨ad, rfl⟩ | hn
        · simpa [Instr.loadAt, Instr.sureAddr, asAddr] using h1
        · exfalso
          have : (Instr.sureAddr va) = stuck "an address expected (no nilCheck in front?)" := by
            unfold Instr.sureAddr
            split
            · exact absurd ⟨_, rfl⟩ hn
            · rfl
          simp [Instr.loadAt, this, stuck] at h1
      · cases h
    · cases h

theorem VsR.mk {E : Env} : ∀ {xs : List V1} {vs : List Value}, xs.length = vs.length → (∀ (i : Nat) x v, xs[i]? = some x → vs[i]? = some v → V1R E x v) → VsR E xs vs
  | [], [], _, _ => rfl
  | x :: xs, v :: vs, hl, h => ⟨v, vs, rfl, h 0 x v rfl rfl, VsR.mk (by simpa using hl) fun i y u hy hu => h (i + 1) y u (by simpa using hy) (by simpa using hu)⟩
  | [], _ :: _, hl, _ => by simp at hl
  | _ :: _, [], hl, _ => by simp at hl

theorem ones_at : ∀ {l : List AV} {xs : List V1}, ones l = some xs → l.length = xs.length ∧ ∀ (i : Nat) x, xs[i]? = some x → l[i]? = some (.one x)
  | [], xs, h => by simp [ones] at h; subst h; exact ⟨rfl, fun i x hx => by simp at hx⟩
  | a :: l, xs, h => by
    unfold ones at h
    split at h
    · rename_i h1 h2; cases h2
    · rename_i x r hx
      split at h
      · rename_i ys hys
        injection h with h
        subst h
        injection hx with e1 e2
        subst e1; subst e2
        obtain ⟨h3, h4⟩ := ones_at hys
        refine ⟨by simp [h3], fun i z hz => ?_⟩
        cases i with
        | zero => simp at hz; subst hz; rfl
        | succ i => simpa using h4 i z (by simpa using hz)
      · cases h
    · cases h

theorem resAll_run (hT : TabOk P T) {st : St} {E : Env} {a : Act} (hs : Sim st E a) {fn : Func} {x : AV} (h : resAll T st fn.results.toList = some x) : ∃ v, (results fn a.tmps).run P E.w = .ok v E.w ∧ AVR E x v := by
  have gen : ∀ (l : List ResultVar) (vs : List AV), mapO (resOne T st) l = some vs → ∃ us : List Value, us.length = l.length ∧ (∀ (i : Nat) y u, vs[i]? = some y → us[i]? = some u → AVR E y u) ∧
      (l.mapM (resRun a.tmps)).run P E.w = .ok us E.w := by
    intro l vs hm
    obtain ⟨h1, h2⟩ := mapO_some hm
    have : ∀ (l : List ResultVar) (vs : List AV), vs.length = l.length → (∀ (i : Nat) r, l[i]? = some r → ∃ y, resOne T st r = some y ∧ vs[i]? = some y) → ∃ us : List Value, us.length = l.length ∧ (∀ (i : Nat) y u, vs[i]? = some y → us[i]? = some u → AVR E y u) ∧
        ∀ (i : Nat) r, l[i]? = some r → ∃ u, us[i]? = some u ∧ (resRun a.tmps r).run P E.w = .ok u E.w := by
      intro l
      induction l with
      | nil => intro vs _ _; exact ⟨[], rfl, fun i y u _ hu => by simp at hu, fun i r hr => by simp at hr⟩
      | cons r l ih =>
        intro vs hl h
        cases vs with
        | nil => simp at hl
        | cons y vs =>
          obtain ⟨us, e1, e2, e3⟩ := ih vs (by simpa using hl) (fun i r hr => by simpa using h (i + 1) r (by simpa using hr))
          obtain ⟨y', hy, hy'⟩ := h 0 r rfl
          simp at hy'
          subst hy'
          obtain ⟨v, hv1, hv2⟩ := resOne_run hT hs hy
          refine ⟨v :: us, by simp [e1], fun i z u hz hu => ?_, fun i r' hr' => ?_⟩
          · cases i with
            | zero => simp at hz hu; subst hz; subst hu; exact hv2
            | succ i => exact e2 i z u (by simpa using hz) (by simpa using hu)
          · cases i with
            | zero => simp at hr'; subst hr'; exact ⟨v, rfl, hv1⟩
            | succ i => simpa using e3 i r' (by simpa using hr')
    obtain ⟨us, e1, e2, e3⟩ := this l vs h1 h2
    exact ⟨us, e1, e2, mapM_run P E.w _ l us e3 e1.symm⟩
  have run : ∀ us : List Value, (fn.results.toList.mapM (resRun a.tmps)).run P E.w = .ok us E.w →
      (results fn a.tmps).run P E.w = .ok (if h : us.toArray.size = 1 then us.toArray[0] else .tuple us.toArray) E.w := by
    intro us hu
    rw [results_eq, Array.mapM_eq_mapM_toList]
    simp [-Array.getD_eq_getD_getElem?, hu]
  unfold resAll at h
  split at h
  · rename_i r hl
    obtain ⟨v, h1, h2⟩ := resOne_run hT hs h
    refine ⟨v, ?_, h2⟩
    have := run [v] (by rw [hl]; exact mapM_run P E.w _ [r] [v] (fun i x hx => by
      cases i with
      | zero => simp at hx; subst hx; exact ⟨v, rfl, h1⟩
      | succ i => simp at hx) rfl)
    simpa using this
  · rename_i hl
    split at h
    · rename_i vs hm
      split at h
      · rename_i xs ho
        injection h with h
        subst h
        obtain ⟨us, e1, e2, e3⟩ := gen _ _ hm
        obtain ⟨o1, o2⟩ := ones_at ho
        have hlen : us.length ≠ 1 := by
          intro hu
          rw [e1] at hu
          match hr : fn.results.toList, hu with
          | [r], _ => exact hl r hr
        refine ⟨_, run us e3, ?_⟩
        rw [dif_neg (by simpa using hlen)]
        refine ⟨us.toArray, rfl, VsR.mk ?_ fun i x v hx hv => ?_⟩
        · have := (mapO_some hm).1
          simp only [List.size_toArray]
          show xs.length = us.length
          omega
        · exact e2 i _ v (o2 i x hx) (by simpa using hv)
      · cases h
    · cases h

theorem Back.of_ends {m : Nat} {E0 E : Env} {a : Act} {st : St} {fn : Func} {r : AV} {upd : List (Option Blk)} {fresh : List Blk} (hT : TabOk P T) (hm : ∀ b, E0.U b → b < m) (hs : Sim st E a) (hf : Fr E0 E)
    (h : Ends P T m fn r upd fresh st) : ∃ v, (results fn a.tmps).run P E.w = .ok v E.w ∧ ∃ E', E'.w = E.w ∧ Back E0 m r upd fresh v E' := by
  induction h generalizing E with
  | nil t r' fresh' _ hr he ih =>
    obtain ⟨v, k1, E2, k2, k3⟩ := ih hs hf
    subst he
    exact ⟨v, k1, nilE E2 [] _ t, k2, Back.nil k3 t hr⟩
  | le hle _ ih =>
    obtain ⟨E1, e1, s1, f1⟩ := hle E0 E a hm hs hf
    obtain ⟨v, k1, E2, k2, k3⟩ := ih s1 f1
    rw [e1] at k1 k2
    exact ⟨v, k1, E2, k2, k3⟩
  | @mk r upd fresh st us acc x hr c1 c2 c3 hu hh he =>
    obtain ⟨v, h1, h2⟩ := resAll_run hT hs hr
    obtain ⟨k1, k2, k3⟩ := weak hm hs.ok hs.H hf c1 c2
    have hu := Nat.eq_of_beq_eq_true hu
    have hlen : acc.length = m + fresh.length := by
      have := congrArg List.length hh
      simp [wkH] at this
      omega
    refine ⟨v, h1, weakE E _ us acc, rfl, he ▸ k3 x v c3 h2, k1, fun b => ?_, fun b => ?_, k2.ext, k2.fr⟩
    · show (match (wkH _ us acc)[b]? with | some x => x | none => none) = _
      rw [hh]
      split <;> rename_i hb
      · split
        · rename_i hlt
          rw [List.getElem?_append_left (by omega)] at hb
          rw [hb]; rfl
        · rename_i hlt
          rw [List.getElem?_append_right (by omega), hu, List.getElem?_map] at hb
          cases hf : fresh[b - m]? with
          | none => rw [hf] at hb; cases hb
          | some y => rw [hf] at hb; simp at hb; exact hb.symm
      · have := List.getElem?_eq_none_iff.1 hb
        simp at this
        rw [if_neg (by omega), List.getElem?_eq_none (by omega)]
    · show b < acc.length ↔ _
      rw [hlen]

def st0 (n : Nat) (args : List V1) (bl : List Blk) : St := { tmps := args.map .one ++ List.replicate (n - args.length) .dead, heap := bl.map some }

theorem VsR.at_ {E : Env} : ∀ {xs : List V1} {vs : List Value}, VsR E xs vs → ∀ (i : Nat) x, xs[i]? = some x → ∃ v, vs[i]? = some v ∧ V1R E x v
  | [], _, _, i, x, h => by simp at h
  | y :: xs, _, ⟨v, r, e, h1, h2⟩, i, x, h => by
    subst e
    cases i with
    | zero => simp at h; subst h; exact ⟨v, rfl, h1⟩
    | succ i => simpa using h2.at_ i x (by simpa using h)

theorem Sim.start {E : Env} {args : List V1} {bl : List Blk} {vs : Array Value} (n : Nat) (hH : ∀ b, E.H b = bl[b]?) (hU : ∀ b, E.U b ↔ b < bl.length) (ok : HeapOk E) (hv : VsR E args vs.toList) :
    Sim (st0 n args bl) E { tmps := vs ++ Array.replicate (n - vs.size) undef, defers := [] } := by
  have hl : vs.size = args.length := by have := VsR.len hv; simpa using this
  refine ⟨rfl, by simp [st0, hl], fun i x hx => ?_, ok, fun b => ?_, fun b hb => by simpa [st0] using (hU b).1 hb⟩
  · simp only [st0, List.getElem?_append] at hx
    split at hx
    · rename_i hi
      rw [List.getElem?_map] at hx
      cases h : args[i]? with
      | none => rw [h] at hx; cases hx
      | some y =>
        rw [h] at hx
        simp at hx
        subst hx
        obtain ⟨v, h1, h2⟩ := hv.at_ i y h
        have hi : i < vs.size := by simp at hi; omega
        exact ⟨v, by simpa [Array.getElem?_append, hi] using h1, h2⟩
    · rename_i hi
      simp at hi
      rw [List.getElem?_replicate] at hx
      split at hx
      · rename_i hlt
        injection hx with hx
        subst hx
        refine ⟨undef, ?_, trivial⟩
        rw [Array.getElem?_append, if_neg (by omega), Array.getElem?_replicate, if_pos (by simp at hlt; omega)]
      · cases hx
  · rw [hH]
    show _ = (match (bl.map some)[b]? with | some o => o | none => none)
    rw [List.getElem?_map]
    cases bl[b]? <;> rfl

theorem fn_sound {f : FuncId} {fn : Func} {c : Code} (hT : TabOk P T) (hf : P.funcs[f]? = some fn) (hb : fn.body = some c) (s : CSpec)
    (h : ∀ args bl p r upd fresh, s.run args bl = some (p, r, upd, fresh) → (∀ q, p = some q → q) →
      ∃ args', (∀ E vs, HeapOk E → (∀ b, E.H b = bl[b]?) → VsR E args vs → VsR E args' vs) ∧ Does P bl.length c (st0 fn.ntmps args' bl) (EndK P T bl.length fn r upd fresh)) : CSound P f s := by
  intro E0 vs args bl p r upd fresh hH hU hok hvs hrun hp
  obtain ⟨args', h1, h2⟩ := h args bl p r upd fresh hrun hp
  have hm : ∀ b, E0.U b → b < bl.length := fun b hb => (hU b).1 hb
  refine calls_of_wp hf hb (h2 E0 _ E0 _ hm (Sim.start fn.ntmps hH hU hok (h1 E0 _ hok hH hvs)) ⟨frameOf_ok, Ext.refl E0⟩ ?_)
  intro e st' E' a' hk hs' hf'
  have fin : Ends P T bl.length fn r upd fresh st' → a'.defers = [] ∧ ∃ v, (results fn a'.tmps).run P E'.w = .ok v E'.w ∧ ∃ v' E'', Ending.returned v = .returned v' ∧ E''.w = E'.w ∧ Back E0 bl.length r upd fresh v' E'' := by
    intro he
    obtain ⟨v, k1, E'', k2, k3⟩ := Back.of_ends hT hm hs' hf' he
    exact ⟨hs'.defers, v, k1, v, E'', rfl, k2, k3⟩
  cases e with
  | normal => exact fin hk
  | ret => exact fin hk
  | _ => exact hk.elim

-- contracts over pure data

structure Sig where
  ag : Bool
  t : Ty
@[reducible] def Args : List Sig → Type
  | [] => Unit
  | g :: gs => Den g.t × Args gs

def decV (g : Sig) (x : V1) : Option (Den g.t) := match g.ag, x with
  | false, .c c => match decAll (fun _ => none) g.t [c] with
    | some (d, _) => (match cells g.t d with | [_] => some d | _ => none)
    | none => none
  | true, .agg cs => match decAll (fun _ => none) g.t cs with
    | some (d, _) => some d
    | none => none
  | _, _ => none
def canonV (g : Sig) (d : Den g.t) : V1 := match g.ag with
  | true => .agg (cells g.t d)
  | false => match cells g.t d with
    | [c] => .c c
    | cs => .agg cs
def decArgs : (gs : List Sig) → List V1 → Option (Args gs)
  | [], [] => some ()
  | g :: gs, x :: xs => match decV g x with
    | some d => (match decArgs gs xs with | some r => some (d, r) | none => none)
    | none => none
  | _, _ => none
def canonArgs : (gs : List Sig) → Args gs → List V1
  | [], _ => []
  | g :: gs, (a, r) => canonV g a :: canonArgs gs r
def AllArgs : (gs : List Sig) → (Args gs → Prop) → Prop
  | [], p => p ()
  | g :: gs, p => ∀ a : Den g.t, AllArgs gs fun r => p (a, r)
theorem AllArgs.out : ∀ {gs : List Sig} {p : Args gs → Prop}, AllArgs gs p → ∀ x, p x
  | [], _, h, () => h
  | _ :: _, _, h, (a, r) => AllArgs.out (h a) r

theorem decV_rel {E : Env} (hH : HeapOk E) (hn : ∀ b, E.H b = none) {g : Sig} {x : V1} {d : Den g.t} {v : Value} (h : decV g x = some d) (hv : V1R E x v) : V1R E (canonV g d) v := by
  have su : ∀ {us : List Nat} {t : Ty} {x : Den t} {vs : List Value}, CR E.w (SU E us) t x vs → CR E.w E.S t x vs := by
    intro us t x vs hc
    refine hc.mono fun g hg => ⟨?_, rfl⟩
    rcases hg with hg | ⟨u, x, _, hx, _⟩
    · exact hg
    · rw [hn] at hx; cases hx
  have dec : ∀ {cs : List Cell} {vs : List Value} {t : Ty} {d : Den t} {us : List Nat}, decAll (fun _ => none) t cs = some (d, us) → IR E cs vs → IR E (cells t d) vs :=
    fun h hr => (su (decAll_rel hH (fun b x hx => by cases hx) h hr)).items
  unfold decV at h
  unfold canonV
  split at h
  · rename_i c hg
    rw [hg]
    split at h
    · rename_i d' us hd
      split at h
      · rename_i c' hc
        injection h with h
        subst h
        have := dec hd (show IR E [c] [v] from ⟨[v], [], rfl, hv, rfl⟩)
        simp only [hc]
        rw [hc] at this
        obtain ⟨r, s, e, h1, h2⟩ := this
        simp only [IR] at h2
        subst h2
        simp at e
        subst e
        exact h1
      · cases h
    · cases h
  · rename_i cs hg
    rw [hg]
    split at h
    · rename_i d' us hd
      injection h with h
      subst h
      obtain ⟨vals, e, hi⟩ := hv
      exact ⟨vals, e, dec hd hi⟩
    · cases h
  · cases h

theorem decArgs_rel {E : Env} (hH : HeapOk E) (hn : ∀ b, E.H b = none) : ∀ {gs : List Sig} {xs : List V1} {ds : Args gs} {vs : List Value}, decArgs gs xs = some ds → VsR E xs vs → VsR E (canonArgs gs ds) vs
  | [], [], _, _, _, hv => hv
  | g :: gs, x :: xs, ds, _, h, ⟨v, r, e, h1, h2⟩ => by
    unfold decArgs at h
    split at h
    · rename_i d hd
      split at h
      · rename_i rs hr
        injection h with h
        subst h
        exact ⟨v, r, e, decV_rel hH hn hd h1, decArgs_rel hH hn hr h2⟩
      · cases h
    · cases h
  | [], _ :: _, _, _, h, _ => by simp [decArgs] at h
  | _ :: _, [], _, _, h, _ => by simp [decArgs] at h

structure PSpec where
  gs : List Sig
  out : Args gs → Option Prop × AV × List Blk

def PSpec.spec (s : PSpec) : CSpec := { wr := false, run := fun args bl => match bl with
  | [] => match decArgs s.gs args with
    | some xs => some ((s.out xs).1, (s.out xs).2.1, [], (s.out xs).2.2)
    | none => none
  | _ :: _ => none }

def startC (P : Program) (T : Tab) (fn : Func) (args : List V1) (bl : List Blk) (r : AV) (upd : List (Option Blk)) (fresh : List Blk) : Prop := match fn.body with
  | some c => fV1s args fun args => fBlks bl fun bl => fSt (st0 fn.ntmps args bl) fun st => ex P T bl.length c st (EndK P T bl.length fn r upd fresh)
  | none => False

theorem PSpec.sound {f : FuncId} {fn : Func} (hT : TabOk P T) (hP : SpecsOk P T) (hf : P.funcs[f]? = some fn) (hn : (fn.name == "runtime.NumGoroutine") = false) (s : PSpec)
    (h : AllArgs s.gs fun xs => (∀ q, (s.out xs).1 = some q → q) → startC P T fn (canonArgs s.gs xs) [] (s.out xs).2.1 [] (s.out xs).2.2) (hb : fn.body.isSome = true) : CSound P f s.spec ∧ Enters P f := by
  refine ⟨?_, fn, hf, hn, hb⟩
  obtain ⟨c, hc⟩ := Option.isSome_iff_exists.1 hb
  refine fn_sound hT hf hc _ fun args bl p r upd fresh hrun hp => ?_
  unfold PSpec.spec at hrun
  simp only at hrun
  split at hrun
  · split at hrun
    · rename_i xs hxs
      simp only [Option.some.injEq, Prod.mk.injEq] at hrun
      obtain ⟨rfl, rfl, rfl, rfl⟩ := hrun
      refine ⟨_, fun E vs hok hH hv => decArgs_rel hok (fun b => by rw [hH]; simp) hxs hv, ?_⟩
      have := h.out xs hp
      unfold startC at this
      rw [hc] at this
      simp only [fV1s_eq, fBlks_eq, fSt_eq] at this
      exact ex_sound hT hP c this
    · cases hrun
  · cases hrun

end
end Go.Fw
