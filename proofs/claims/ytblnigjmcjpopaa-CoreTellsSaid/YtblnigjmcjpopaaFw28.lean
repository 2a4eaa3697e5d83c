/- Small rules for proofs by evaluation. -/
import Derived.Test.YtblnigjmcjpopaaFw27
namespace Go.Fw
set_option linter.unusedVariables false
set_option linter.unusedSimpArgs false

/-- evaluate here, once -/
inductive Go (q : Prop) : Prop where
  | mk : q → Go q
theorem Go.out {q : Prop} (h : Go q) : q := by cases h; assumption

theorem NilG.go {A X B Y : Prop} (h1 : A → Go X) (h2 : B → Go Y) : NilG A X B Y := ⟨fun h => (h1 h).out, fun h => (h2 h).out⟩
theorem Need.go {p q : Prop} (h1 : p) (h2 : Go q) : Need p q := ⟨h1, h2.out⟩
theorem Br.go {b : Bool} {x y : Prop} (h1 : b = true → Go x) (h2 : b = false → Go y) : Br b x y := Br.mk (fun h => (h1 h).out) (fun h => (h2 h).out)
theorem Br.dec {p : Prop} [Decidable p] {x y : Prop} (h1 : p → Go x) (h2 : ¬ p → Go y) : Br (decide p) x y :=
  Br.mk (fun h => (h1 (of_decide_eq_true h)).out) (fun h => (h2 (of_decide_eq_false h)).out)

def fAVL : List AV → (List AV → Prop) → Prop
  | [], k => k []
  | c :: cs, k => fAV c fun c => fAVL cs fun cs => k (c :: cs)
def fOBL : List (Option Blk) → (List (Option Blk) → Prop) → Prop
  | [], k => k []
  | c :: cs, k => fOB c fun c => fOBL cs fun cs => k (c :: cs)
def fState (s : St) (k : St → Prop) : Prop := fAVL s.tmps fun t => fOBL s.heap fun h => k { tmps := t, heap := h }
theorem fAVL_eq : ∀ (l : List AV) (k : List AV → Prop), fAVL l k = k l
  | [], k => rfl
  | n :: ns, k => by unfold fAVL; rw [fAV_eq, fAVL_eq ns]
theorem fOBL_eq : ∀ (l : List (Option Blk)) (k : List (Option Blk) → Prop), fOBL l k = k l
  | [], k => rfl
  | n :: ns, k => by unfold fOBL; rw [fOB_eq, fOBL_eq ns]
theorem fState_eq (s : St) (k : St → Prop) : fState s k = k s := by unfold fState; rw [fAVL_eq, fOBL_eq]

/-- slots, given by number -/
def sparse : Nat → Nat → List (Nat × AV) → List AV
  | 0, _, _ => []
  | n + 1, k, [] => .dead :: sparse n (k + 1) []
  | n + 1, k, (i, v) :: r => match Nat.beq i k with
    | true => v :: sparse n (k + 1) r
    | false => .dead :: sparse n (k + 1) ((i, v) :: r)
def mkSt (n : Nat) (l : List (Nat × AV)) (h : List (Option Blk)) : St := { tmps := sparse n 0 l, heap := h }

-- operations once more, by the recursor itself

def stepM (T : Tab) (ops : Array Oper) (As : List (List Bool)) (efs : List W1) (o : Oper) (i : Nat) (own : List (Nat × Nat × Nat)) (st : St) (K : List (Nat × Nat × Nat) → St → Prop) : Prop :=
    match lenLe (getL As i) i && dstSeen i o ops.toList As (getL As i) with
    | false => False
    | true => fWs (incL i efs As (getL As i) lits) fun inc =>
      match guardTmp ops o with
      | none => False
      | some none => withName lits st.heap st.heap.length fun nm =>
        doM T o (fun t => hideT i t ops.toList As (getL As i) lits) (fun b => hideB inc (getL As i) b own) (getW efs i) nm st fun st' add => K (ownAdd own i nm add) st'
      | some (some (d, want)) => match evHide st (fun t => hideT i t ops.toList As (getL As i) lits) (.tmp d) with
        | .one (.c (.imm (.bool b))) => Br b
          (fSt (st.put (some d) (.cell (bv true))) fun st => match want with
            | true => withName lits st.heap st.heap.length fun nm =>
              doM T o (fun t => hideT i t ops.toList As (getL As i) lits) (fun b => hideB inc (getL As i) b own) (getW efs i) nm st fun st' add => K (ownAdd own i nm add) st'
            | false => fSt (st.put o.dst .dead) fun st => K own st)
          (fSt (st.put (some d) (.cell (bv false))) fun st => match want with
            | false => withName lits st.heap st.heap.length fun nm =>
              doM T o (fun t => hideT i t ops.toList As (getL As i) lits) (fun b => hideB inc (getL As i) b own) (getW efs i) nm st fun st' add => K (ownAdd own i nm add) st'
            | true => fSt (st.put o.dst .dead) fun st => K own st)
        | _ => False
def exMR (T : Tab) (ops : Array Oper) (As : List (List Bool)) (efs : List W1) (l : List Oper) : List Nat → List (Nat × Nat × Nat) → St → (St → Prop) → Prop :=
  List.rec (motive := fun _ => List Nat → List (Nat × Nat × Nat) → St → (St → Prop) → Prop) (fun _ _ st K => K st) (fun o _ ih is own st K => match is with | [] => False | i :: is => stepM T ops As efs o i own st fun own' st' => ih is own' st' K) l
theorem exMR_eq (T : Tab) (ops : Array Oper) (As : List (List Bool)) (efs : List W1) : ∀ (l : List Oper) (is : List Nat) (own : List (Nat × Nat × Nat)) (st : St) (K : St → Prop), exMR T ops As efs l is own st K = exM T ops As efs l is own st K
  | [], is, own, st, K => by cases is <;> rfl
  | o :: r, [], own, st, K => rfl
  | o :: r, i :: is, own, st, K => by
    show stepM T ops As efs o i own st (fun own' st' => exMR T ops As efs r is own' st' K) = exM T ops As efs (o :: r) (i :: is) own st K
    have e : (fun own' st' => exMR T ops As efs r is own' st' K) = fun own' st' => exM T ops As efs r is own' st' K := funext fun own' => funext fun st' => exMR_eq T ops As efs r is own' st' K
    rw [e]
    rfl
def exDR (T : Tab) (ops : Array Oper) (st : St) (K : St → Prop) : Prop :=
  withAncs ops.toList [] fun As => fWs (effs T st [] ops.toList) fun efs => exMR T ops As efs ops.toList lits [] st K
theorem exDR_eq (T : Tab) (ops : Array Oper) (st : St) (K : St → Prop) : exDR T ops st K = exD T ops st K := by
  unfold exDR exD
  simp only [exMR_eq]

def stepO (T : Tab) (ops : Array Oper) (o : Oper) (st : St) (K : St → Prop) : Prop := match guardTmp ops o with
    | none => False
    | some none => withName lits st.heap st.heap.length fun nm => doOp T o nm st K
    | some (some (d, want)) => match st.tmp d with
      | .one (.c (.imm (.bool b))) => Br b
          (match want with
            | true => fSt (st.put (some d) (.cell (bv true))) fun st => withName lits st.heap st.heap.length fun nm => doOp T o nm st K
            | false => fSt ((st.put (some d) (.cell (bv true))).put o.dst (.tup [])) K)
          (match want with
            | false => fSt (st.put (some d) (.cell (bv false))) fun st => withName lits st.heap st.heap.length fun nm => doOp T o nm st K
            | true => fSt ((st.put (some d) (.cell (bv false))).put o.dst (.tup [])) K)
      | .tup [] => fSt (st.put o.dst (.tup [])) K
      | _ => False
def exOpsR (T : Tab) (ops : Array Oper) (l : List Oper) : St → (St → Prop) → Prop :=
  List.rec (motive := fun _ => St → (St → Prop) → Prop) (fun st K => K st) (fun o _ ih st K => stepO T ops o st fun st' => ih st' K) l
theorem exOpsR_eq (T : Tab) (ops : Array Oper) : ∀ (l : List Oper) (st : St) (K : St → Prop), exOpsR T ops l st K = exOps T ops l st K
  | [], st, K => rfl
  | o :: r, st, K => by
    show stepO T ops o st (fun st' => exOpsR T ops r st' K) = exOps T ops (o :: r) st K
    have e : (fun st' => exOpsR T ops r st' K) = fun st' => exOps T ops r st' K := funext fun st' => exOpsR_eq T ops r st' K
    rw [e]
    rfl

-- the evaluator of code once more, by the recursor itself: the kernel then meets the same terms as the elaborator (with 'ex' it does not, and compares long)

def seqK (iy : St → Cont → Prop) (K : Cont) : Cont := fun e st' => match e with
  | .normal => iy st' K
  | .exit i => K (.exit i) st'
  | .ret => K .ret st'
  | _ => False
def blockK (id : Nat) (K : Cont) : Cont := fun e st' => match e with
  | .normal => K .normal st'
  | .exit i => (match Nat.beq i id with | true => K .normal st' | false => K (.exit i) st')
  | .ret => K .ret st'
  | _ => False
def xCond (c : Operand) (ix iy : St → Cont → Prop) (st : St) (K : Cont) : Prop := match st.eval c with
  | .one (.c (.imm (.bool b))) => Br b (fSt (putB st c true) fun st => ix st K) (fSt (putB st c false) fun st => iy st K)
  | _ => False
def xRegion (P : Program) (T : Tab) (m : Nat) (id : Nat) (ops : Array Oper) (d : Bool) (st : St) (K : Cont) : Prop := match d with
  | false => exOpsR T ops ops.toList st fun st' => K .normal st'
  | true => DrawG P m id ops st fun st' => K .normal st'
def exR (P : Program) (T : Tab) (m : Nat) (c : Code) : St → Cont → Prop :=
  Code.rec (motive := fun _ => St → Cont → Prop) (fun st K => K .normal st) (fun id ops d st K => xRegion P T m id ops d st K) (fun _ _ ix iy st K => ix st (seqK iy K)) (fun c _ _ ix iy st K => xCond c ix iy st K)
    (fun id _ ic st K => ic st (blockK id K)) (fun c _ st K => LoopG P m c st K) (fun _ _ _ _ _ _ _ _ => False) (fun i st K => K (.exit i) st) (fun _ _ _ _ => False) (fun _ st K => K .normal st) (fun _ _ _ => False)
    (fun st K => K .ret st) (fun _ _ _ => False) c
theorem exR_eq (P : Program) (T : Tab) (m : Nat) : ∀ (c : Code) (st : St) (K : Cont), exR P T m c st K = ex P T m c st K := by
  intro c
  induction c with
  | seq x y ihx ihy =>
    intro st K
    show exR P T m x st (seqK (exR P T m y) K) = ex P T m x st _
    rw [ihx]
    congr 1
    funext e st'
    cases e <;> simp only [seqK, ihy]
  | cond c x y ihx ihy =>
    intro st K
    show xCond c (exR P T m x) (exR P T m y) st K = ex P T m (.cond c x y) st K
    have e1 : (fun st => exR P T m x st K) = fun st => ex P T m x st K := funext fun st => ihx st K
    have e2 : (fun st => exR P T m y st K) = fun st => ex P T m y st K := funext fun st => ihy st K
    unfold xCond
    rw [e1, e2]
    rfl
  | block id c ih =>
    intro st K
    show exR P T m c st (blockK id K) = ex P T m (.block id c) st K
    rw [ih]
    rfl
  | region id ops d =>
    intro st K
    show xRegion P T m id ops d st K = ex P T m (.region id ops d) st K
    cases d with
    | false => exact exOpsR_eq T ops _ _ _
    | true => rfl
  | _ => intro st K; rfl

def startR (P : Program) (T : Tab) (fn : Func) (args : List V1) (bl : List Blk) (r : AV) (upd : List (Option Blk)) (fresh : List Blk) : Prop := match fn.body with
  | some c => fV1s args fun args => fBlks bl fun bl => fSt (st0 fn.ntmps args bl) fun st => exR P T bl.length c st (EndK P T bl.length fn r upd fresh)
  | none => False
theorem startR_eq (P : Program) (T : Tab) (fn : Func) (args : List V1) (bl : List Blk) (r : AV) (upd : List (Option Blk)) (fresh : List Blk) : startR P T fn args bl r upd fresh = startC P T fn args bl r upd fresh := by
  unfold startR startC
  cases fn.body with
  | some c => simp only [exR_eq]
  | none => rfl

section
variable {P : Program} {T : Tab}
theorem does_go (hT : TabOk P T) (hP : SpecsOk P T) {m : Nat} {c : Code} {st : St} {K : Cont} (h : Go (fState st fun st => exR P T m c st K)) : Does P m c st K := by
  have := h.out
  rw [fState_eq, exR_eq] at this
  exact ex_sound hT hP c this
theorem draw_go (hT : TabOk P T) (hP : SpecsOk P T) (hm : P.follows .mixedOrders = true) {m id : Nat} {st : St} {ops : Array Oper} {K : St → Prop} (h : Go (exDR T ops st K)) : DrawG P m id ops st K := draw_rule hT hP hm (by have := h.out; rwa [exDR_eq] at this)
theorem round_go (hT : TabOk P T) (hP : SpecsOk P T) {m n : Nat} {c : Code} {st : St} {K : Cont} (h : Go (fState st fun st => exR P T m c st fun e st' => match e with | .normal => RoundG P m c K n st' | e => K e st')) : RoundG P m c K (n + 1) st := round_ (does_go hT hP h)
theorem loop_go (hT : TabOk P T) (hP : SpecsOk P T) {X : Type} {m : Nat} {c : Code} {st : St} {K : Cont} (S : X → St) (I : X → Prop) (μ : X → Nat) (x0 : X) (h0 : Le m st (S x0)) (hI : I x0)
    (h : ∀ x, I x → Go (fState (S x) fun st => exR P T m c st fun e st' => match e with | .normal => ∃ x', I x' ∧ μ x' < μ x ∧ Le m st' (S x') | e => K e st')) : LoopG P m c st K :=
  loop_rule S I μ x0 h0 hI fun x hx => does_go hT hP (h x hx)
theorem PSpec.good {f : FuncId} {fn : Func} (hT : TabOk P T) (hP : SpecsOk P T) (hf : P.funcs[f]? = some fn) (hn : (fn.name == "runtime.NumGoroutine") = false) (s : PSpec) (hb : fn.body.isSome = true)
    (h : AllArgs s.gs fun xs => (∀ q, (s.out xs).1 = some q → q) → Go (startR P T fn (canonArgs s.gs xs) [] (s.out xs).2.1 [] (s.out xs).2.2)) : Good P f s.spec := by
  refine PSpec.sound hT hP hf hn s ?_ hb
  have : ∀ (gs : List Sig) (p q : Args gs → Prop), (∀ x, p x → q x) → AllArgs gs p → AllArgs gs q := by
    intro gs
    induction gs with
    | nil => intro p q h h1; exact h () h1
    | cons g gs ih => intro p q h h1 a; exact ih _ _ (fun r => h (a, r)) (h1 a)
  exact this _ _ _ (fun x hx hp => by have := (hx hp).out; rwa [startR_eq] at this) h
end

theorem Le.trans {m : Nat} {a b c : St} (h1 : Le m a b) (h2 : Le m b c) : Le m a c := by
  intro E0 E ac hm hs hf
  obtain ⟨E1, e1, s1, f1⟩ := h1 E0 E ac hm hs hf
  obtain ⟨E2, e2, s2, f2⟩ := h2 E0 E1 ac hm s1 f1
  exact ⟨E2, e2.trans e1, s2, f2⟩

/-- a nil slice, taken for one of one's own -/
theorem Le.nil {m : Nat} {st : St} (i : Nat) (t : Ty) (h : st.tmps[i]? = some (.imm (.slice none 0 0))) : Le m st { tmps := st.tmps.set i (.cell (.own st.heap.length)), heap := setAt st.heap st.heap.length (some (.arr t [])) } := by
  intro E0 E a hm hs hf
  have hU : ¬ E.U st.heap.length := fun hu => by have := hs.U _ hu; omega
  have hstep : Step E { pre := none, val := .cell (.own st.heap.length), add := [.arr t []], set := [] } st.heap.length (nilE E [] st.heap.length t) := Step.nil (us := []) hs.ok rfl rfl hU
  obtain ⟨v, hv1, hv2⟩ := hs.tmp i _ h
  obtain ⟨e, _⟩ := hv2
  injection e with e
  subst e
  have hsim := hs.step (dst := some i) hstep (nilE_own E [] st.heap.length t)
  refine ⟨nilE E [] st.heap.length t, rfl, ?_, hf.step hstep⟩
  have ha : a.put (some i) (.slice none 0 0) = a := by
    obtain ⟨tm, df⟩ := a
    simp only [Act.put, Act.mk.injEq, and_true]
    apply Array.ext_getElem?
    intro j
    rw [Array.getElem?_setIfInBounds]
    by_cases hj : i = j
    · subst hj
      have hv1 : tm[i]? = some (.slice none 0 0) := hv1
      rw [hv1]
      simp
      exact (Array.getElem?_eq_some_iff.1 hv1).1
    · simp [hj]
  rw [ha] at hsim
  exact hsim

theorem imax_eq (x y : Int) : imax x y = max x y := by unfold imax; omega
theorem imin_eq (x y : Int) : imin x y = min x y := by unfold imin; omega
theorem imm_int {k : IntKind} {n m : Int} (h : n = m) : AV.one (V1.c (.imm (.int k n))) = AV.one (V1.c (.imm (.int k m))) := by rw [h]
theorem imm_bool {n m : Bool} (h : n = m) : AV.one (V1.c (.imm (.bool n))) = AV.one (V1.c (.imm (.bool m))) := by rw [h]
theorem ro_eq {t : Ty} {n m : List (Den t)} (h : n = m) : AV.one (V1.c (.ro t n)) = AV.one (V1.c (.ro t m)) := by rw [h]

end Go.Fw
