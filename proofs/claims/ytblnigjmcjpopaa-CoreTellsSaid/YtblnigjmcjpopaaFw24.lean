/- Regions whose order is drawn: each operation is run on what is surely there. -/
import Derived.Test.YtblnigjmcjpopaaFw23
namespace Go.Fw
set_option linter.unusedVariables false
set_option linter.unusedSimpArgs false

-- who comes before whom

def orB : List Bool → List Bool → List Bool
  | [], l => l
  | a :: x, [] => a :: x
  | a :: x, b :: y => (match a with | true => true | false => b) :: orB x y
def oneB : Nat → List Bool
  | 0 => [true]
  | j + 1 => false :: oneB j
def getB : List Bool → Nat → Bool
  | [], _ => false
  | b :: _, 0 => b
  | _ :: r, n + 1 => getB r n
def getL : List (List Bool) → Nat → List Bool
  | [], _ => []
  | b :: _, 0 => b
  | _ :: r, n + 1 => getL r n
def ancOf (As : List (List Bool)) : List Edge → List Bool
  | [] => []
  | e :: r => match Region.binds .any e with
    | true => orB (orB (oneB e.on) (getL As e.on)) (ancOf As r)
    | false => ancOf As r
def fBools : List Bool → (List Bool → Prop) → Prop
  | [], k => k []
  | true :: cs, k => fBools cs fun cs => k (true :: cs)
  | false :: cs, k => fBools cs fun cs => k (false :: cs)
def fBool (b : Bool) (k : Bool → Prop) : Prop := match b with | true => k true | false => k false
def withAncs : List Oper → List (List Bool) → (List (List Bool) → Prop) → Prop
  | [], As, K => K As
  | o :: r, As, K => fBools (ancOf As o.after.toList) fun A => fL (As ++ [A]) fun As => withAncs r As K

/-- which blocks an operation may change: none, any, or those of a list -/
inductive W1 where
  | no | any | only (l : List Nat)
def mayW : W1 → Nat → Bool
  | .no, _ => false
  | .any, _ => true
  | .only l, b => memN b l
def getW : List W1 → Nat → W1
  | [], _ => .no
  | b :: _, 0 => b
  | _ :: r, n + 1 => getW r n
def fW : W1 → (W1 → Prop) → Prop
  | .no, k => k .no
  | .any, k => k .any
  | .only l, k => fNats l fun l => k (.only l)
def fWs : List W1 → (List W1 → Prop) → Prop
  | [], k => k []
  | c :: cs, k => fW c fun c => fWs cs fun cs => k (c :: cs)
/-- the last one that writes a slot, of those behind (the nearest first), and what lies behind it -/
def defOf (t : Tmp) : List Oper → Option (Op × List Oper)
  | [] => none
  | o :: os => match o.dst with
    | some d => (match Nat.beq d t with | true => some (o.op, os) | false => defOf t os)
    | none => defOf t os
/-- the block that an address is in, as far as the text tells (checked when the operation is run) -/
def baseOf (st : St) : Nat → List Oper → Operand → W1
  | 0, _, _ => .any
  | f + 1, ops, x => match x with
    | .tmp t => match defOf t ops with
      | some (.fieldAddr _ y _, os) => baseOf st f os y
      | some (.indexAddr _ y _, os) => baseOf st f os y
      | some (.move y, os) => baseOf st f os y
      | some (.assign y, os) => baseOf st f os y
      | some (.binOp .., _) => .only []
      | some (.call c, _) => (match c.callee with | .builtin b => (match b with | .len => .only [] | .max => .only [] | .min => .only [] | _ => .any) | _ => .any)
      | some _ => .any
      | none => match st.tmp t with
        | .one (.c (.ptr b _)) => .only [b]
        | .one (.c (.pel b _ _)) => .only [b]
        | .one (.c (.pidx b _ _)) => .only [b]
        | .one (.c (.own b)) => .only [b]
        | .one (.c (.sub b _ _)) => .only [b]
        | .one (.c (.svar b _ _)) => .only [b]
        | .one (.c (.map b)) => .only [b]
        | .one (.c (.imm _)) => .only []
        | .one (.c (.ro _ _)) => .only []
        | _ => .any
    | _ => .only []
/-- the blocks that a call may change, as far as the text tells: what its arguments reach -/
def argsW (st : St) (ops : List Oper) : List Operand → Option (List Nat)
  | [] => some []
  | a :: r => match baseOf st 6 ops a with
    | .only l => (match argsW st ops r with | some m => some (l ++ m) | none => none)
    | _ => none
def callW (st : St) (ops : List Oper) (args : List Operand) : W1 := match argsW st ops args with
  | some l => (match reach st.look 100 l [] with | some acc => .only acc | none => .any)
  | none => .any
/-- the function that a called value is, as far as the text tells, and the blocks that it holds on to -/
def calleeOf (st : St) : Nat → List Oper → Operand → Option (FuncId × List Nat)
  | 0, _, _ => none
  | f + 1, ops, x => match x with
    | .func g => some (g, [])
    | .tmp t => match defOf t ops with
      | some (.move y, os) => calleeOf st f os y
      | some (.assign y, os) => calleeOf st f os y
      | some _ => none
      | none => match st.tmp t with
        | .one (.c (.fn g caps)) => some (g, caps)
        | _ => none
    | _ => none
def callV (st : St) (ops : List Oper) (args : List Operand) (caps : List Nat) : W1 := match argsW st ops args with
  | some l => (match reach st.look 100 (l ++ caps) [] with | some acc => .only acc | none => .any)
  | none => .any
def effO (T : Tab) (st : St) (ops : List Oper) (o : Oper) : W1 := match o.op with
  | .store _ a _ => baseOf st 6 ops a
  | .mapUpdate _ m _ _ => baseOf st 6 ops m
  | .insert _ m _ _ => baseOf st 6 ops m
  | .call c => match c.callee with
    | .builtin b => (match b with | .append => callW st ops (c.args.toList.take 1) | .copy => callW st ops (c.args.toList.take 1) | _ => .no)
    | .value f => (match calleeOf st 6 ops f with | some (g, caps) => (match T.fn g with | some s => (match s.wr with | true => callV st ops c.args.toList caps | false => .no) | none => .any) | none => .any)
    | _ => .any
  | _ => .no
def effs (T : Tab) (st : St) (ops : List Oper) : List Oper → List W1
  | [] => []
  | o :: r => effO T st ops o :: effs T st (o :: ops) r

/-- what those may change that aren't bound to come before or after -/
def incL (i : Nat) : List W1 → List (List Bool) → List Bool → List Nat → List W1
  | e :: es, As, A, k :: ks => match e with
    | .no => incL i es (As.drop 1) (A.drop 1) ks
    | e => match Nat.beq k i with
      | true => incL i es (As.drop 1) (A.drop 1) ks
      | false => match getB A 0 with
        | true => incL i es (As.drop 1) (A.drop 1) ks
        | false => match getB (getL As 0) i with
          | true => incL i es (As.drop 1) (A.drop 1) ks
          | false => e :: incL i es (As.drop 1) (A.drop 1) ks
  | [], _, _, _ => []
  | _ :: _, _, _, [] => [.any]
def anyW : List W1 → Nat → Bool
  | [], _ => false
  | c :: r, b => match mayW c b with | true => true | false => anyW r b
def setsOk (e : W1) : List (Nat × Option Blk) → Bool
  | [] => true
  | (n, _) :: r => match mayW e n with | true => setsOk e r | false => false
/-- is the slot written by one that isn't surely before or after? -/
def hideT (i : Nat) (t : Tmp) : List Oper → List (List Bool) → List Bool → List Nat → Bool
  | o :: os, As, A, k :: ks => match o.dst with
    | some d => match Nat.beq d t with
      | true => match getB A 0 with
        | true => hideT i t os (As.drop 1) (A.drop 1) ks
        | false => match getB (getL As 0) i with
          | true => hideT i t os (As.drop 1) (A.drop 1) ks
          | false => match Nat.beq k i with
            | true => hideT i t os (As.drop 1) (A.drop 1) ks
            | false => true
      | false => hideT i t os (As.drop 1) (A.drop 1) ks
    | none => hideT i t os (As.drop 1) (A.drop 1) ks
  | [], _, _, _ => false
  | _ :: _, _, _, [] => true
def hideB (inc : List W1) (A : List Bool) (b : Nat) : List (Nat × Nat × Nat) → Bool
  | [] => anyW inc b
  | (k, n, c) :: r => match Nat.ble n b && Nat.blt b (n + c) with
    | true => (match getB A k with | true => hideB inc A b r | false => true)
    | false => hideB inc A b r
def setsSeen (lk : Nat → Option Blk) : List (Nat × Option Blk) → Bool
  | [] => true
  | (n, _) :: r => match lk n with | none => false | some _ => setsSeen lk r
def ownAdd (own : List (Nat × Nat × Nat)) (i nm : Nat) : List Blk → List (Nat × Nat × Nat)
  | [] => own
  | b :: r => (i, nm, r.length + 1) :: own
/-- is the operation's own slot written, before it, only by those that are surely before? -/
def dstSeen (i : Nat) (o : Oper) (ops : List Oper) (As : List (List Bool)) (A : List Bool) : Bool := match o.dst with
  | none => true
  | some d => match hideT i d (ops.take i) As A lits with | true => false | false => true
def lenLe : List Bool → Nat → Bool
  | [], _ => true
  | _ :: _, 0 => false
  | _ :: r, n + 1 => lenLe r n

def evHide (st : St) (hide : Tmp → Bool) (x : Operand) : AV := match x with
  | .tmp t => (match hide t with | true => .dead | false => st.tmp t)
  | .const v => constV v
  | .func f => .cell (.fn f [])
  | .global _ => .dead
def lookHide (st : St) (hb : Nat → Bool) (b : Nat) : Option Blk := match hb b with | true => none | false => st.look b

def doM (T : Tab) (o : Oper) (ht : Tmp → Bool) (hb : Nat → Bool) (eff : W1) (nm : Nat) (st : St) (K : St → List Blk → Prop) : Prop :=
  match dstep T (evHide st ht) (lookHide st hb) nm o with
  | some r => need r.pre (fRes r fun v add set => match setsSeen (lookHide st hb) set && setsOk eff set with
    | true => fSt ((st.act nm { pre := none, val := v, add := add, set := set }).put o.dst v) fun st => K st add
    | false => False)
  | none => False

def exM (T : Tab) (ops : Array Oper) (As : List (List Bool)) (efs : List W1) : List Oper → List Nat → List (Nat × Nat × Nat) → St → (St → Prop) → Prop
  | [], _, _, st, K => K st
  | _ :: _, [], _, _, _ => False
  | o :: r, i :: is, own, st, K =>
    match lenLe (getL As i) i && dstSeen i o ops.toList As (getL As i) with
    | false => False
    | true => fWs (incL i efs As (getL As i) lits) fun inc =>
      match guardTmp ops o with
      | none => False
      | some none => withName lits st.heap st.heap.length fun nm =>
        doM T o (fun t => hideT i t ops.toList As (getL As i) lits) (fun b => hideB inc (getL As i) b own) (getW efs i) nm st fun st' add => exM T ops As efs r is (ownAdd own i nm add) st' K
      | some (some (d, want)) => match evHide st (fun t => hideT i t ops.toList As (getL As i) lits) (.tmp d) with
        | .one (.c (.imm (.bool b))) => Br b
          (fSt (st.put (some d) (.cell (bv true))) fun st => match want with
            | true => withName lits st.heap st.heap.length fun nm =>
              doM T o (fun t => hideT i t ops.toList As (getL As i) lits) (fun b => hideB inc (getL As i) b own) (getW efs i) nm st fun st' add => exM T ops As efs r is (ownAdd own i nm add) st' K
            | false => fSt (st.put o.dst .dead) fun st => exM T ops As efs r is own st K)
          (fSt (st.put (some d) (.cell (bv false))) fun st => match want with
            | false => withName lits st.heap st.heap.length fun nm =>
              doM T o (fun t => hideT i t ops.toList As (getL As i) lits) (fun b => hideB inc (getL As i) b own) (getW efs i) nm st fun st' add => exM T ops As efs r is (ownAdd own i nm add) st' K
            | true => fSt (st.put o.dst .dead) fun st => exM T ops As efs r is own st K)
        | _ => False

def exD (T : Tab) (ops : Array Oper) (st : St) (K : St → Prop) : Prop :=
  withAncs ops.toList [] fun As => fWs (effs T st [] ops.toList) fun efs => exM T ops As efs ops.toList lits [] st K

theorem fBools_eq : ∀ (l : List Bool) (k : List Bool → Prop), fBools l k = k l
  | [], k => rfl
  | true :: ns, k => by unfold fBools; rw [fBools_eq ns]
  | false :: ns, k => by unfold fBools; rw [fBools_eq ns]
theorem fBool_eq (b : Bool) (k : Bool → Prop) : fBool b k = k b := by cases b <;> rfl

theorem getB_or : ∀ {a b : List Bool} {j : Nat}, getB (orB a b) j = true → getB a j = true ∨ getB b j = true
  | [], _, _, h => .inr h
  | _ :: _, [], _, h => .inl h
  | a :: x, b :: y, 0, h => by cases a <;> simp_all [orB, getB]
  | a :: x, b :: y, j + 1, h => getB_or (a := x) (b := y) (j := j) h
theorem getB_or_l : ∀ {a b : List Bool} {j : Nat}, getB a j = true → getB (orB a b) j = true
  | [], _, _, h => by cases h
  | _ :: _, [], _, h => h
  | a :: x, b :: y, 0, h => by cases a <;> simp_all [orB, getB]
  | a :: x, b :: y, j + 1, h => getB_or_l (a := x) (b := y) (j := j) h
theorem getB_or_r : ∀ {a b : List Bool} {j : Nat}, getB b j = true → getB (orB a b) j = true
  | [], _, _, h => h
  | _ :: _, [], _, h => by cases h
  | a :: x, b :: y, 0, h => by cases a <;> simp_all [orB, getB]
  | a :: x, b :: y, j + 1, h => getB_or_r (a := x) (b := y) (j := j) h
theorem getB_one : ∀ {i j : Nat}, getB (oneB i) j = true ↔ j = i
  | 0, 0 => by simp [oneB, getB]
  | 0, j + 1 => by simp [oneB, getB]
  | i + 1, 0 => by simp [oneB, getB]
  | i + 1, j + 1 => by simp [oneB, getB, getB_one]
theorem lenLe_ok : ∀ {l : List Bool} {i j : Nat}, lenLe l i = true → getB l j = true → j < i
  | [], _, _, _, h => by cases h
  | _ :: _, 0, _, h, _ => by cases h
  | _ :: r, n + 1, 0, _, _ => by omega
  | _ :: r, n + 1, j + 1, h, h' => by have := lenLe_ok (l := r) (i := n) (j := j) h h'; omega
theorem getL_append : ∀ {a b : List (List Bool)} {k : Nat}, getL a k ≠ [] → getL (a ++ b) k = getL a k
  | [], _, _, h => absurd rfl h
  | x :: a, b, 0, _ => rfl
  | x :: a, b, k + 1, h => getL_append (a := a) (b := b) (k := k) h
theorem getL_at : ∀ {a : List (List Bool)} {k : Nat} {x : List Bool}, a[k]? = some x → getL a k = x
  | [], _, _, h => by simp at h
  | y :: a, 0, _, h => by simp at h; exact h
  | y :: a, k + 1, _, h => getL_at (a := a) (k := k) (by simpa using h)

theorem ancOf_ok {As : List (List Bool)} {j : Nat} : ∀ {l : List Edge}, getB (ancOf As l) j = true → ∃ e ∈ l, Region.binds .any e = true ∧ (j = e.on ∨ getB (getL As e.on) j = true)
  | [], h => by cases h
  | e :: r, h => by
    unfold ancOf at h
    split at h
    · rename_i hb
      rcases getB_or h with h | h
      · rcases getB_or h with h | h
        · exact ⟨e, by simp, hb, .inl (getB_one.1 h)⟩
        · exact ⟨e, by simp, hb, .inr h⟩
      · obtain ⟨e', h1, h2⟩ := ancOf_ok h
        exact ⟨e', by simp [h1], h2⟩
    · obtain ⟨e', h1, h2⟩ := ancOf_ok h
      exact ⟨e', by simp [h1], h2⟩
theorem ancOf_in {As : List (List Bool)} : ∀ {l : List Edge} {e : Edge}, e ∈ l → Region.binds .any e = true → getB (ancOf As l) e.on = true
  | e' :: r, e, h, hb => by
    unfold ancOf
    rcases List.mem_cons.1 h with rfl | h
    · rw [hb]; exact getB_or_l (getB_or_l (getB_one.2 rfl))
    · split
      · exact getB_or_r (ancOf_in h hb)
      · exact ancOf_in h hb

/-- what the table of those before says -/
structure AncOk (ops : List Oper) (As : List (List Bool)) : Prop where
  out : ∀ (i : Nat) o, ops[i]? = some o → ∀ j, getB (getL As i) j = true → ∃ e ∈ o.after, Region.binds .any e = true ∧ (j = e.on ∨ getB (getL As e.on) j = true)
  in_ : ∀ (i : Nat) o, ops[i]? = some o → ∀ e ∈ o.after, Region.binds .any e = true → getB (getL As i) e.on = true

theorem withAncs_out : ∀ (l : List Oper) (As : List (List Bool)) {K : List (List Bool) → Prop}, withAncs l As K → ∃ Bs, K (As ++ Bs) ∧ ∀ (i : Nat) o, l[i]? = some o → Bs[i]? = some (ancOf (As ++ Bs.take i) o.after.toList)
  | [], As, K, h => ⟨[], by simpa [withAncs] using h, fun i o ho => by simp at ho⟩
  | o :: r, As, K, h => by
    unfold withAncs at h
    rw [fBools_eq, fL_eq] at h
    obtain ⟨Bs, h1, h2⟩ := withAncs_out r _ h
    refine ⟨ancOf As o.after.toList :: Bs, by simpa using h1, fun i o' ho => ?_⟩
    cases i with
    | zero => simp at ho; subst ho; simp
    | succ i => have := h2 i o' (by simpa using ho); simpa using this

theorem ancOk {ops : List Oper} {K : List (List Bool) → Prop} (h : withAncs ops [] K) : ∃ As, K As ∧ AncOk ops As := by
  obtain ⟨Bs, h1, h2⟩ := withAncs_out ops [] h
  simp only [List.nil_append] at h1 h2
  refine ⟨Bs, h1, fun i o ho j hj => ?_, fun i o ho e he hb => ?_⟩
  · rw [getL_at (h2 i o ho)] at hj
    obtain ⟨e, he, hb, hh⟩ := ancOf_ok hj
    refine ⟨e, by simpa using he, hb, hh.imp id fun hh => ?_⟩
    have hne : getL (Bs.take i) e.on ≠ [] := fun e => by rw [e] at hh; cases hh
    have := getL_append (b := Bs.drop i) hne
    rw [List.take_append_drop] at this
    rw [this]; exact hh
  · rw [getL_at (h2 i o ho)]
    exact ancOf_in (by simpa using he) hb

theorem getB_drop : ∀ (A : List Bool) (j : Nat), getB (A.drop 1) j = getB A (j + 1)
  | [], _ => rfl
  | _ :: _, _ => rfl
theorem getL_drop : ∀ (A : List (List Bool)) (j : Nat), getL (A.drop 1) j = getL A (j + 1)
  | [], _ => rfl
  | _ :: _, _ => rfl

theorem hideT_ok {i : Nat} {t : Tmp} : ∀ {ops : List Oper} {As : List (List Bool)} {A : List Bool} {ks : List Nat} {c : Nat}, (∀ (j n : Nat), ks[j]? = some n → n = c + j) → hideT i t ops As A ks = false → ∀ (k : Nat) o, ops[k]? = some o → o.dst = some t → c + k ≠ i → getB A k = true ∨ getB (getL As k) i = true
  | [], _, _, _, _, _, _, k, o, ho, _, _ => by simp at ho
  | _ :: _, _, _, [], _, _, h, _, _, _, _, _ => by simp [hideT] at h
  | o' :: os, As, A, n :: ks, c, hk, h, k, o, ho, hd, hne => by
    have hn : n = c := by simpa using hk 0 n rfl
    subst hn
    have rest : hideT i t os (As.drop 1) (A.drop 1) ks = false := by
      unfold hideT at h
      split at h
      · split at h
        · split at h
          · exact h
          · split at h
            · exact h
            · split at h
              · exact h
              · cases h
        · exact h
      · exact h
    cases k with
    | succ k =>
      have := hideT_ok (c := n + 1) (fun j m hm => by have := hk (j + 1) m (by simpa using hm); omega) rest k o (by simpa using ho) hd (by omega)
      rwa [getB_drop, getL_drop] at this
    | zero =>
      simp at ho
      subst ho
      unfold hideT at h
      rw [hd] at h
      simp only [Nat.beq_refl] at h
      split at h
      · exact .inl ‹_›
      · split at h
        · exact .inr ‹_›
        · split at h
          · rename_i hb
            exact absurd (Nat.eq_of_beq_eq_true hb) (by omega)
          · cases h

theorem fW_eq (w : W1) (k : W1 → Prop) : fW w k = k w := by cases w <;> simp only [fW, fNats_eq]
theorem fWs_eq : ∀ (l : List W1) (k : List W1 → Prop), fWs l k = k l
  | [], k => rfl
  | c :: cs, k => by unfold fWs; rw [fW_eq, fWs_eq cs]
theorem anyW_cons {c : W1} {r : List W1} {b : Nat} (h : anyW (c :: r) b = false) : mayW c b = false ∧ anyW r b = false := by
  unfold anyW at h
  split at h
  · cases h
  · exact ⟨‹_›, h⟩
theorem incL_ok {i b : Nat} : ∀ {es : List W1} {As : List (List Bool)} {A : List Bool} {ks : List Nat} {c : Nat}, (∀ (j n : Nat), ks[j]? = some n → n = c + j) → anyW (incL i es As A ks) b = false → ∀ k, mayW (getW es k) b = true → c + k ≠ i → getB A k = true ∨ getB (getL As k) i = true
  | [], _, _, _, _, _, _, k, hk, _ => by cases hk
  | _ :: _, _, _, [], _, _, h, _, _, _ => by simp [incL, anyW, mayW] at h
  | e :: es, As, A, n :: ks, c, hk, h, k, he, hne => by
    have hn : n = c := by simpa using hk 0 n rfl
    subst hn
    have rest : anyW (incL i es (As.drop 1) (A.drop 1) ks) b = false := by
      unfold incL at h
      split at h
      · exact h
      · split at h
        · exact h
        · split at h
          · exact h
          · split at h
            · exact h
            · exact (anyW_cons h).2
    cases k with
    | succ k =>
      have := incL_ok (c := n + 1) (fun j m hm => by have := hk (j + 1) m (by simpa using hm); omega) rest k he (by omega)
      rwa [getB_drop, getL_drop] at this
    | zero =>
      have he : mayW e b = true := he
      unfold incL at h
      split at h
      · cases he
      · split at h
        · rename_i hb
          exact absurd (Nat.eq_of_beq_eq_true hb) (by omega)
        · split at h
          · exact .inl ‹_›
          · split at h
            · exact .inr ‹_›
            · rw [(anyW_cons h).1] at he; cases he
theorem setsOk_ok {e : W1} : ∀ {l : List (Nat × Option Blk)}, setsOk e l = true → ∀ n o, (n, o) ∈ l → mayW e n = true
  | [], _, n, o, h => by cases h
  | (n', o') :: r, h, n, o, hm => by
    unfold setsOk at h
    split at h
    · rename_i hf
      rcases List.mem_cons.1 hm with e | hm
      · injection e with e1 e2; subst e1; exact hf
      · exact setsOk_ok h n o hm
    · cases h

theorem hideB_ok {inc : List W1} {A : List Bool} {b : Nat} : ∀ {own : List (Nat × Nat × Nat)}, hideB inc A b own = false → anyW inc b = false ∧ ∀ k n c, (k, n, c) ∈ own → n ≤ b → b < n + c → getB A k = true
  | [], h => ⟨h, fun k n c hm => by cases hm⟩
  | (k', n', c') :: r, h => by
    unfold hideB at h
    split at h
    · split at h
      · rename_i hk
        obtain ⟨h1, h2⟩ := hideB_ok h
        refine ⟨h1, fun k n c hm h3 h4 => ?_⟩
        rcases List.mem_cons.1 hm with e | hm
        · injection e with e1 e2; subst e1; exact hk
        · exact h2 k n c hm h3 h4
      · cases h
    · rename_i hf
      obtain ⟨h1, h2⟩ := hideB_ok h
      refine ⟨h1, fun k n c hm h3 h4 => ?_⟩
      rcases List.mem_cons.1 hm with e | hm
      · injection e with e1 e2
        injection e2 with e2 e3
        subst e1; subst e2; subst e3
        have : (Nat.ble n b && Nat.blt b (n + c)) = true := by
          rw [Bool.and_eq_true]
          exact ⟨by rw [Nat.ble_eq]; exact h3, by unfold Nat.blt; rw [Nat.ble_eq]; omega⟩
        rw [this] at hf; cases hf
      · exact h2 k n c hm h3 h4

theorem setsSeen_ok {lk : Nat → Option Blk} : ∀ {l : List (Nat × Option Blk)}, setsSeen lk l = true → ∀ n o, (n, o) ∈ l → ∃ x, lk n = some x
  | [], _, n, o, h => by cases h
  | (n', o') :: r, h, n, o, hm => by
    unfold setsSeen at h
    split at h
    · cases h
    · rename_i x hf
      rcases List.mem_cons.1 hm with e | hm
      · injection e with e1 e2; subst e1; exact ⟨x, hf⟩
      · exact setsSeen_ok h n o hm

theorem lits_eq (j n : Nat) (h : lits[j]? = some n) : n = 0 + j := by
  have e : lits = List.range lits.length := by decide +kernel
  rw [e] at h
  rcases Nat.lt_or_ge j lits.length with h1 | h1
  · rw [List.getElem?_range h1] at h
    injection h with h; omega
  · rw [List.getElem?_eq_none (by simpa using h1)] at h; cases h

end Go.Fw
