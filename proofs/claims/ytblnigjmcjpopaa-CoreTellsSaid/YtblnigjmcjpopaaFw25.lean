/- Regions whose order is drawn: whatever the order, the same comes out. -/
import Derived.Test.YtblnigjmcjpopaaFw24
namespace Go.Fw
set_option linter.unusedVariables false
set_option linter.unusedSimpArgs false

structure Stp where
  i : Nat
  dst : Option Tmp
  nm : Nat
  r : Res

def Stp.ovT (n : Nat) (t : Tmp) (s : Stp) : Option AV := match s.dst with
  | some d => if d = t ∧ t < n then some s.r.val else none
  | none => none
def ovS : List (Nat × Option Blk) → Nat → Option (Option Blk)
  | [], _ => none
  | (n, o) :: r, b => match ovS r b with
    | some x => some x
    | none => if b = n then some o else none
def Stp.ovH (b : Nat) (s : Stp) : Option (Option Blk) := if s.nm ≤ b ∧ b < s.nm + s.r.add.length then some s.r.add[b - s.nm]? else ovS s.r.set b

theorem setF_ov : ∀ (l : List (Nat × Option Blk)) (H : Nat → Option Blk) (b : Nat), setF H l b = (ovS l b).getD (H b)
  | [], H, b => rfl
  | (n, o) :: r, H, b => by
    rw [setF, setF_ov r, ovS]
    cases ovS r b with
    | some x => rfl
    | none =>
      simp only [Option.getD]
      by_cases h : b = n
      · simp [h]
      · simp [h]
theorem ovS_mem : ∀ {l : List (Nat × Option Blk)} {b : Nat} {x : Option Blk}, ovS l b = some x → ∃ o, (b, o) ∈ l
  | (n, o) :: r, b, x, h => by
    unfold ovS at h
    split at h
    · rename_i y hy
      obtain ⟨o', ho⟩ := ovS_mem hy
      exact ⟨o', by simp [ho]⟩
    · split at h
      · rename_i hb; subst hb; exact ⟨o, by simp⟩
      · cases h

theorem step_look (st : St) (s : Stp) (v : AV) (b : Nat) : ((st.act s.nm s.r).put s.dst v).look b = (s.ovH b).getD (st.look b) := by
  have h : ((st.act s.nm s.r).put s.dst v).look b = (st.act s.nm s.r).look b := by cases s.dst <;> rfl
  rw [h, look_act, addF_at]
  unfold Stp.ovH
  split
  · rfl
  · exact setF_ov _ _ _
theorem step_tmp (st : St) (s : Stp) (t : Tmp) : ((st.act s.nm s.r).put s.dst s.r.val).tmp t = (s.ovT st.tmps.length t).getD (st.tmp t) := by
  unfold Stp.ovT
  cases s.dst with
  | none => rfl
  | some d =>
    show (st.tmps.set d s.r.val).getD t .dead = _
    simp only [List.getD_eq_getElem?_getD, List.getElem?_set]
    by_cases hd : d = t
    · subst hd
      by_cases hl : d < st.tmps.length
      · simp [hl]
      · simp [hl, St.tmp]
    · simp [hd, St.tmp]
theorem step_len (st : St) (s : Stp) (v : AV) : ((st.act s.nm s.r).put s.dst v).tmps.length = st.tmps.length := by
  cases hd : s.dst with
  | none => rfl
  | some d => simp [St.put, St.act]
theorem step_heap (st : St) (s : Stp) (v : AV) : st.heap.length ≤ ((st.act s.nm s.r).put s.dst v).heap.length ∧ (0 < s.r.add.length → s.nm + s.r.add.length ≤ ((st.act s.nm s.r).put s.dst v).heap.length) := by
  have h : ((st.act s.nm s.r).put s.dst v).heap = addAll (setAll st.heap s.r.set) s.nm s.r.add := by cases s.dst <;> rfl
  rw [h]
  obtain ⟨h1, h2⟩ := len_addAll s.r.add (setAll st.heap s.r.set) s.nm
  have := len_setAll s.r.set st.heap
  exact ⟨by omega, h2⟩

def foldS {α : Type} (ov : Stp → Option α) (p : Nat → Bool) : List Stp → α → α
  | [], x => x
  | s :: r, x => foldS ov p r (if p s.i then (ov s).getD x else x)

theorem foldS_eq {α : Type} {ov : Stp → Option α} {p q : Nat → Bool} : ∀ {l : List Stp} {x : α}, (∀ s ∈ l, p s.i ≠ q s.i → ov s = none) → foldS ov p l x = foldS ov q l x
  | [], _, _ => rfl
  | s :: r, x, h => by
    unfold foldS
    have : (if p s.i then (ov s).getD x else x) = (if q s.i then (ov s).getD x else x) := by
      by_cases he : p s.i = q s.i
      · rw [he]
      · rw [h s (by simp) he]; simp
    rw [this]
    exact foldS_eq fun s' hs => h s' (by simp [hs])
theorem foldS_none {α : Type} {ov : Stp → Option α} {p : Nat → Bool} : ∀ {l : List Stp} {x : α}, (∀ s ∈ l, p s.i = true → ov s = none) → foldS ov p l x = x
  | [], _, _ => rfl
  | s :: r, x, h => by
    unfold foldS
    have : (if p s.i then (ov s).getD x else x) = x := by
      split
      · rw [h s (by simp) ‹_›]; rfl
      · rfl
    rw [this]
    exact foldS_none fun s' hs => h s' (by simp [hs])
theorem foldS_ins {α : Type} {ov : Stp → Option α} {p p' : Nat → Bool} {s0 : Stp} (hp0 : p s0.i = false) (hp0' : p' s0.i = true) (hp' : ∀ k, k ≠ s0.i → p' k = p k) : ∀ {l : List Stp} {x : α}, s0 ∈ l → l.Pairwise (fun a b => a.i < b.i) →
    (∀ s ∈ l, s0.i < s.i → p s.i = true → ov s0 = none ∨ ov s = none) → foldS ov p' l x = (ov s0).getD (foldS ov p l x)
  | [], _, hm, _, _ => by cases hm
  | s :: r, x, hm, hw, h => by
    obtain ⟨hw1, hw2⟩ := List.pairwise_cons.1 hw
    unfold foldS
    rcases List.mem_cons.1 hm with rfl | hm
    · rw [hp0, hp0']
      simp only [if_true, Bool.false_eq_true, if_false]
      have e : ∀ y, foldS ov p' r y = foldS ov p r y := fun y => foldS_eq fun s hs hne => absurd (hp' s.i (by have := hw1 s hs; omega)) hne
      rw [e]
      cases ho : ov s0 with
      | none => rfl
      | some y =>
        simp only [Option.getD]
        exact foldS_none fun s hs hps => (h s (by simp [hs]) (hw1 s hs) hps).resolve_left (by rw [ho]; simp)
    · have hlt := hw1 s0 hm
      rw [hp' s.i (by omega)]
      exact foldS_ins hp0 hp0' hp' hm hw2 fun s' hs => h s' (by simp [hs])

section
variable (T : Tab) (ops : Array Oper) (As : List (List Bool)) (efs : List W1)

def Anc (i k : Nat) : Prop := getB (getL As i) k = true

structure Fact (prev : List Stp) (st : St) (o : Oper) (s : Stp) : Prop where
  dst : s.dst = o.dst
  nm : st.heap.length ≤ s.nm
  lt : ∀ k, Anc As s.i k → k < s.i
  seen : ∀ (k : Nat) o' d, k < s.i → ops[k]? = some o' → o'.dst = some d → o.dst = some d → Anc As s.i k ∨ Anc As k s.i
  views : ∃ (ht : Tmp → Bool) (hb : Nat → Bool),
    (∀ t, ht t = false → ∀ (k : Nat) o', ops[k]? = some o' → o'.dst = some t → k ≠ s.i → Anc As s.i k ∨ Anc As k s.i) ∧
    (∀ b, hb b = false → (∀ k, mayW (getW efs k) b = true → k ≠ s.i → Anc As s.i k ∨ Anc As k s.i) ∧ ∀ s' ∈ prev, s'.nm ≤ b → b < s'.nm + s'.r.add.length → Anc As s.i s'.i) ∧
    (∀ n x, (n, x) ∈ s.r.set → ∃ y, lookHide st hb n = some y) ∧
    (∀ n x, (n, x) ∈ s.r.set → mayW (getW efs s.i) n = true) ∧
    (((guardTmp ops o = some none ∨ ∃ d want, guardTmp ops o = some (some (d, want)) ∧ ht d = false ∧ st.tmp d = .cell (bv want)) ∧
        dstep T (evHide st ht) (lookHide st hb) s.nm o = some s.r ∧ (∀ q, s.r.pre = some q → q)) ∨
      (∃ d want, guardTmp ops o = some (some (d, want)) ∧ ht d = false ∧ st.tmp d = .cell (bv (!want)) ∧ s.r = { pre := none, val := .dead, add := [], set := [] }))

inductive Run : Nat → List Stp → List Oper → St → List Stp → St → Prop where
  | nil {c prev st} : Run c prev [] st [] st
  | cons {c prev st o l s rest st'} : s.i = c → Fact T ops As efs prev st o s → Run (c + 1) (prev ++ [s]) l ((st.act s.nm s.r).put s.dst s.r.val) rest st' → Run c prev (o :: l) st (s :: rest) st'
end

section
variable {T : Tab} {ops : Array Oper} {As : List (List Bool)} {efs : List W1}

theorem put_same {st : St} {d : Tmp} {v : AV} (h : st.tmp d = v) : st.put (some d) v = st := by
  show { st with tmps := st.tmps.set d v } = st
  have : st.tmps.set d v = st.tmps := by
    apply List.ext_getElem?
    intro i
    rw [List.getElem?_set]
    by_cases hd : d = i
    · subst hd
      by_cases hl : d < st.tmps.length
      · simp [hl]
        rw [← h]
        simp [St.tmp, hl]
      · simp [hl]
    · simp [hd]
  rw [this]

theorem exM_run : ∀ (l : List Oper) (c : Nat) (is : List Nat) (own : List (Nat × Nat × Nat)) (prev : List Stp) {st : St} {K : St → Prop},
    ops.toList.drop c = l → (∀ (j n : Nat), is[j]? = some n → n = c + j) → (∀ s ∈ prev, s.r.add ≠ [] → (s.i, s.nm, s.r.add.length) ∈ own) → exM T ops As efs l is own st K →
    ∃ rs st', Run T ops As efs c prev l st rs st' ∧ K st'
  | [], c, is, own, prev, st, K, _, _, _, h => ⟨[], st, .nil, h⟩
  | o :: l, c, [], own, prev, st, K, _, _, _, h => h.elim
  | o :: l, c, i :: is, own, prev, st, K, hd, hi, ho, h => by
    have hc : i = c := by simpa using hi 0 i rfl
    subst hc
    have hi' : ∀ (j n : Nat), is[j]? = some n → n = i + 1 + j := fun j n hn => by have := hi (j + 1) n (by simpa using hn); omega
    have hd' : ops.toList.drop (i + 1) = l := by
      have := congrArg (List.drop 1) hd
      simpa using this
    unfold exM at h
    split at h
    · exact h.elim
    · rename_i hchk
      rw [Bool.and_eq_true] at hchk
      obtain ⟨hle, hseen⟩ := hchk
      rw [fWs_eq] at h
      generalize hinc : incL i efs As (getL As i) lits = inc at h
      have lt : ∀ k, Anc As i k → k < i := fun k hk => lenLe_ok hle hk
      have seen : ∀ (k : Nat) o' d, k < i → ops[k]? = some o' → o'.dst = some d → o.dst = some d → Anc As i k ∨ Anc As k i := by
        intro k o' d hk hko hd1 hd2
        unfold dstSeen at hseen
        rw [hd2] at hseen
        simp only at hseen
        split at hseen
        · cases hseen
        · rename_i hf
          exact hideT_ok (c := 0) (fun j n h => lits_eq j n h) hf k o' (by rw [List.getElem?_take, if_pos hk, Array.getElem?_toList]; exact hko) hd1 (by omega)
      have v1 : ∀ t, hideT i t ops.toList As (getL As i) lits = false → ∀ (k : Nat) o', ops[k]? = some o' → o'.dst = some t → k ≠ i → Anc As i k ∨ Anc As k i := by
        intro t ht k o' hk hd1 hne
        exact hideT_ok (c := 0) (fun j n h => lits_eq j n h) ht k o' (by rw [Array.getElem?_toList]; exact hk) hd1 (by omega)
      have v2 : ∀ b, hideB inc (getL As i) b own = false → (∀ k, mayW (getW efs k) b = true → k ≠ i → Anc As i k ∨ Anc As k i) ∧ ∀ s' ∈ prev, s'.nm ≤ b → b < s'.nm + s'.r.add.length → Anc As i s'.i := by
        intro b hb
        obtain ⟨h1, h2⟩ := hideB_ok hb
        refine ⟨fun k hk hne => incL_ok (c := 0) (fun j n h => lits_eq j n h) (by rw [hinc]; exact h1) k hk (by omega), fun s' hs h3 h4 => h2 _ _ _ (ho s' hs ?_) h3 h4⟩
        intro e; rw [e] at h4; simp at h4; omega
      -- one that is done
      have do_ : ∀ {st : St}, (guardTmp ops o = some none ∨ ∃ d want, guardTmp ops o = some (some (d, want)) ∧ hideT i d ops.toList As (getL As i) lits = false ∧ st.tmp d = .cell (bv want)) →
          (withName lits st.heap st.heap.length fun nm => doM T o (fun t => hideT i t ops.toList As (getL As i) lits) (fun b => hideB inc (getL As i) b own) (getW efs i) nm st fun st' add => exM T ops As efs l is (ownAdd own i nm add) st' K) →
          ∃ rs st', Run T ops As efs i prev (o :: l) st rs st' ∧ K st' := by
        intro st hg h
        obtain ⟨nm, hnm, h⟩ := named h
        unfold doM at h
        split at h
        · rename_i r hr
          obtain ⟨hp, h⟩ := need_out h
          rw [fRes_eq] at h
          split at h
          · rename_i hs
            rw [Bool.and_eq_true] at hs
            rw [fSt_eq] at h
            obtain ⟨rs, st', h1, h2⟩ := exM_run l (i + 1) is (ownAdd own i nm r.add) (prev ++ [{ i := i, dst := o.dst, nm := nm, r := r }]) hd' hi' (fun s hs hne => by
              rcases List.mem_append.1 hs with hs | hs
              · have := ho s hs hne
                cases r.add with
                | nil => exact this
                | cons _ _ => exact List.mem_cons_of_mem _ this
              · simp at hs
                subst hs
                simp only at hne ⊢
                cases hra : r.add with
                | nil => exact absurd hra hne
                | cons x y => simp [ownAdd]) h
            exact ⟨_, st', .cons rfl ⟨rfl, hnm, lt, seen, _, _, v1, v2, fun n x hx => setsSeen_ok hs.1 n x hx, fun n x hx => setsOk_ok hs.2 n x hx, .inl ⟨hg, hr, hp⟩⟩ h1, h2⟩
          · exact h.elim
        · exact h.elim
      have skip_ : ∀ {st : St} {d : Tmp} {want : Bool}, guardTmp ops o = some (some (d, want)) → hideT i d ops.toList As (getL As i) lits = false → st.tmp d = .cell (bv (!want)) → exM T ops As efs l is own (st.put o.dst .dead) K →
          ∃ rs st', Run T ops As efs i prev (o :: l) st rs st' ∧ K st' := by
        intro st d want hg hh ht h
        obtain ⟨rs, st', h1, h2⟩ := exM_run l (i + 1) is own (prev ++ [{ i := i, dst := o.dst, nm := st.heap.length, r := { pre := none, val := .dead, add := [], set := [] } }]) hd' hi' (fun s hs hne => by
          rcases List.mem_append.1 hs with hs | hs
          · exact ho s hs hne
          · simp at hs; subst hs; simp at hne) h
        exact ⟨_, st', .cons rfl ⟨rfl, Nat.le_refl _, lt, seen, _, _, v1, v2, fun n x hx => (by cases hx), fun n x hx => (by cases hx), .inr ⟨d, want, hg, hh, ht, rfl⟩⟩ h1, h2⟩
      split at h
      · exact h.elim
      · rename_i hg
        exact do_ (.inl hg) h
      · rename_i d want hg
        split at h
        · rename_i b hb
          have hvis : hideT i d ops.toList As (getL As i) lits = false ∧ st.tmp d = .cell (bv b) := by
            unfold evHide at hb
            simp only at hb
            split at hb
            · cases hb
            · exact ⟨‹_›, hb⟩
          cases b with
          | true =>
            simp only [Br] at h
            rw [fSt_eq, put_same hvis.2] at h
            cases want with
            | true => exact do_ (.inr ⟨d, true, hg, hvis.1, hvis.2⟩) h
            | false => simp only [fSt_eq] at h; exact skip_ hg hvis.1 hvis.2 h
          | false =>
            simp only [Br] at h
            rw [fSt_eq, put_same hvis.2] at h
            cases want with
            | false => exact do_ (.inr ⟨d, false, hg, hvis.1, hvis.2⟩) h
            | true => simp only [fSt_eq] at h; exact skip_ hg hvis.1 hvis.2 h
        · exact h.elim

theorem Run.idx : ∀ {c : Nat} {prev : List Stp} {l : List Oper} {st : St} {rs : List Stp} {st' : St}, Run T ops As efs c prev l st rs st' → rs.length = l.length ∧ (∀ (j : Nat) s, rs[j]? = some s → s.i = c + j) ∧ rs.Pairwise (fun a b => a.i < b.i) ∧ ∀ s ∈ rs, c ≤ s.i := by
  intro c prev l st rs st' h
  induction h with
  | nil => exact ⟨rfl, fun j s h => by simp at h, List.Pairwise.nil, fun s h => by cases h⟩
  | cons hi hf _ ih =>
    obtain ⟨h1, h2, h3, h4⟩ := ih
    refine ⟨by simp [h1], fun j s hj => ?_, List.pairwise_cons.2 ⟨fun s hs => by have := h4 s hs; omega, h3⟩, fun s hs => ?_⟩
    · cases j with
      | zero => simp at hj; subst hj; simpa using hi
      | succ j => have := h2 j s (by simpa using hj); omega
    · rcases List.mem_cons.1 hs with rfl | hs
      · omega
      · have := h4 s hs; omega

/-- the state before step j, read off the steps -/
structure AtJ (st : St) (rs : List Stp) (c : Nat) (sti : St) : Prop where
  tmp : ∀ t, sti.tmp t = foldS (Stp.ovT st.tmps.length t) (fun k => decide (k < c)) rs (st.tmp t)
  look : ∀ b, sti.look b = foldS (Stp.ovH b) (fun k => decide (k < c)) rs (st.look b)
  len : sti.tmps.length = st.tmps.length
  heap : st.heap.length ≤ sti.heap.length
  add : ∀ s ∈ rs, s.i < c → 0 < s.r.add.length → s.nm + s.r.add.length ≤ sti.heap.length
  later : ∀ s ∈ rs, c ≤ s.i → sti.heap.length ≤ s.nm

theorem Run.nmge : ∀ {c : Nat} {prev : List Stp} {l : List Oper} {st : St} {rs : List Stp} {st' : St}, Run T ops As efs c prev l st rs st' → ∀ s ∈ rs, st.heap.length ≤ s.nm := by
  intro c prev l st rs st' hrun
  induction hrun with
  | nil => intro s h; cases h
  | @cons c prev stx o l s rest st' hi hfx hr ih =>
    intro s2 h2
    rcases List.mem_cons.1 h2 with rfl | h2
    · exact hfx.nm
    · have := ih s2 h2
      have := (step_heap stx s s.r.val).1
      omega

theorem Run.at_ : ∀ {c : Nat} {prev : List Stp} {l : List Oper} {st : St} {rs : List Stp} {st' : St}, Run T ops As efs c prev l st rs st' →
    (∀ (j : Nat) s, rs[j]? = some s → ∃ o sti, l[j]? = some o ∧ Fact T ops As efs (prev ++ rs.take j) sti o s ∧ AtJ st rs (c + j) sti) ∧ AtJ st rs (c + l.length) st' := by
  intro c prev l st rs st' h
  induction h with
  | nil => exact ⟨fun j s h => by simp at h, ⟨fun _ => rfl, fun _ => rfl, rfl, Nat.le_refl _, fun s h => (by cases h), fun s h => (by cases h)⟩⟩
  | @cons c prev st o l s rest st' hi hf hr ih =>
    obtain ⟨h1, h2⟩ := ih
    obtain ⟨_, _, _, hge⟩ := hr.idx
    have up : ∀ {j : Nat} {sti : St}, AtJ ((st.act s.nm s.r).put s.dst s.r.val) rest (c + 1 + j) sti → AtJ st (s :: rest) (c + (j + 1)) sti := by
      intro j sti h
      have e : c + (j + 1) = c + 1 + j := by omega
      rw [e]
      have hlt : decide (s.i < c + 1 + j) = true := by simp; omega
      obtain ⟨g1, g2⟩ := step_heap st s s.r.val
      refine ⟨fun t => ?_, fun b => ?_, by rw [h.len, step_len], by have := h.heap; omega, fun s' hs' hlt' hpos => ?_, fun s' hs' hge' => ?_⟩
      · rw [h.tmp, step_tmp, step_len]
        show _ = foldS _ _ rest (if decide (s.i < c + 1 + j) then _ else _)
        rw [hlt]; rfl
      · rw [h.look, step_look]
        show _ = foldS _ _ rest (if decide (s.i < c + 1 + j) then _ else _)
        rw [hlt]; rfl
      · rcases List.mem_cons.1 hs' with rfl | hs'
        · have := g2 hpos; have := h.heap; omega
        · exact h.add s' hs' hlt' hpos
      · rcases List.mem_cons.1 hs' with rfl | hs'
        · omega
        · exact h.later s' hs' hge'
    refine ⟨fun j s' hj => ?_, ?_⟩
    · cases j with
      | zero =>
        simp at hj
        subst hj
        have hno : ∀ s' ∈ (s :: rest), decide (s'.i < c + 0) = true → False := by
          intro s' hs' hlt
          simp at hlt
          rcases List.mem_cons.1 hs' with rfl | hs'
          · omega
          · have := hge s' hs'; omega
        refine ⟨o, st, rfl, by simpa using hf, ⟨fun t => ?_, fun b => ?_, rfl, Nat.le_refl _, fun s' hs' hlt => absurd (by simpa using hlt) (hno s' hs'), fun s' hs' _ => (Run.cons hi hf hr).nmge s' hs'⟩⟩
        · exact (foldS_none fun s' hs' hlt => (hno s' hs' hlt).elim).symm
        · exact (foldS_none fun s' hs' hlt => (hno s' hs' hlt).elim).symm
      | succ j =>
        obtain ⟨o', sti, g1, g2, g3⟩ := h1 j s' (by simpa using hj)
        exact ⟨o', sti, by simpa using g1, by simpa using g2, up g3⟩
    · have := up h2
      simpa using this

end
end Go.Fw
