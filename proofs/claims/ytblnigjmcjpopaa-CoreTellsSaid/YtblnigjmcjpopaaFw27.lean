/- The table of types, checked by one computation. -/
import Derived.Test.YtblnigjmcjpopaaFw26
namespace Go.Fw
set_option linter.unusedVariables false
set_option linter.unusedSimpArgs false

inductive TTree where
  | leaf
  | node (k : Nat) (ti : TI) (l r : TTree)

def TTree.get (t : Nat) : TTree → Option TI
  | .leaf => none
  | .node k ti l r => match Nat.beq t k with
    | true => some ti
    | false => match Nat.ble t k with | true => l.get t | false => r.get t

def zeros (k : IntKind) (vs : List Value) : Bool := vs.all fun v => match v with | .int k' m => decide (k' = k) && decide (m = 0) | _ => false

def crZ : Ty → List Value → Bool
  | .int k, vs => Nat.beq vs.length 1 && zeros k vs
  | .ints k n, vs => Nat.beq vs.length n && zeros k vs
  | .bool, vs => match vs with | [.bool b] => !b | _ => false
  | .str, vs => match vs with | [.string s] => decide (s = ByteArray.empty) | _ => false
  | .sl _, vs => match vs with | [.slice none n c] => Nat.beq n 0 && Nat.beq c 0 | _ => false
  | .pair a b, vs => crZ a (vs.take a.size) && crZ b (vs.drop a.size)

def nilV (a b : Value) : Bool := match a, b with
  | .pointer none, .pointer none => true
  | .nilFunc, .nilFunc => true
  | .nilIface, .nilIface => true
  | .map none, .map none => true
  | .slice none n c, .slice none n' c' => decide (n = n') && decide (c = c')
  | .int k n, .int k' n' => decide (k = k') && decide (n = n')
  | .bool b, .bool b' => b == b'
  | .string s, .string s' => decide (s = s')
  | _, _ => false

def irZ : List Cell → List Value → Bool
  | [], vs => vs.isEmpty
  | c :: cs, vs => match c with
    | .imm a => (match vs with | v :: vs => nilV a v && irZ cs vs | [] => false)
    | .run k n l => Nat.beq (vs.take n).length n && zeros k (vs.take n) && decide (l = List.replicate n 0) && irZ cs (vs.drop n)
    | .ro t l => (match l, vs with | [], .slice none n c :: vs => Nat.beq n 0 && Nat.beq c 0 && irZ cs vs | _, _ => false)
    | _ => false

def chkFields (P : Program) : List (TypeId × Nat) → List Field → Bool
  | [], [] => true
  | (u, o) :: fs, f :: F => Nat.beq f.type u && Nat.beq f.offset o && (P.info? f.type).isSome && chkFields P fs F
  | _, _ => false
def chkDesc (P : Program) (t : TypeId) (d : TD) : Bool := match d, P.underlying t with
  | .int k, some (.int k') => decide (k' = k)
  | .bool, some .bool => true
  | .str, some .string => true
  | .slice e, some (.slice e') => Nat.beq e' e
  | .struct fs, some (.struct F) => chkFields P fs F.toList
  | .array n e, some (.array n' e') => Nat.beq n' n && Nat.beq e' e
  | .ptr e, some (.pointer e') => Nat.beq e' e
  | .iface, some (.interface _) => true
  | .map k e, some (.map k' e') => Nat.beq k' k && Nat.beq e' e
  | .other, some d => !isAggD d
  | _, _ => false
def chkCmp (P : Program) (t : TypeId) (ti : TI) : Bool := match ti.cmp with | true => cmpOk P ti.ety t | false => true
def notAgg : Value → Bool
  | .agg _ => false
  | _ => true
theorem notAgg_ok {z : Value} (h : notAgg z = true) : z.cells.toList = [z] := by cases z <;> first | rfl | cases h
def chkTI (P : Program) (t : TypeId) (ti : TI) : Bool := chkCmp P t ti && (chkDesc P t ti.desc && match P.info? t with
  | none => false
  | some i => match i.zero with
    | none => false
    | some z => Nat.beq i.size ti.size && Nat.beq i.bytes ti.bytes && irZ ti.zero z.cells.toList && Nat.beq z.cells.size ti.size && (ti.isAgg || notAgg z) &&
      match ti.ety with
      | none => true
      | some u => Nat.beq u.size ti.size && crZ u z.cells.toList)
def chkTree (P : Program) : TTree → Bool
  | .leaf => true
  | .node k ti l r => chkTI P k ti && chkTree P l && chkTree P r

theorem zeros_eq {k : IntKind} : ∀ {vs : List Value}, zeros k vs = true → vs = (List.replicate vs.length (0 : Int)).map (.int k)
  | [], _ => rfl
  | v :: vs, h => by
    simp only [zeros, List.all_cons, Bool.and_eq_true] at h
    obtain ⟨h1, h2⟩ := h
    have := zeros_eq (vs := vs) h2
    cases v with
    | int k' m =>
      simp only [Bool.and_eq_true, decide_eq_true_eq] at h1
      obtain ⟨rfl, rfl⟩ := h1
      simp only [List.length_cons, List.replicate_succ, List.map_cons]
      rw [← this]
    | _ => simp at h1

theorem crZ_ok {w : World} {S : Nat → Prop} : ∀ {u : Ty} {vs : List Value}, crZ u vs = true → CR w S u (dflt u) vs
  | .int k, vs, h => by
    simp only [crZ, Bool.and_eq_true] at h
    have h1 := Nat.eq_of_beq_eq_true h.1
    have h2 := zeros_eq h.2
    rw [h1] at h2
    show vs = [.int k 0]
    simpa using h2
  | .ints k n, vs, h => by
    simp only [crZ, Bool.and_eq_true] at h
    have h1 := Nat.eq_of_beq_eq_true h.1
    have h2 := zeros_eq h.2
    rw [h1] at h2
    exact ⟨by simp [dflt], h2⟩
  | .bool, vs, h => by
    unfold crZ at h
    split at h
    · simp at h; subst h; rfl
    · cases h
  | .str, vs, h => by
    unfold crZ at h
    split at h
    · simp at h; subst h; rfl
    · cases h
  | .sl t, vs, h => by
    unfold crZ at h
    split at h
    · simp only [Bool.and_eq_true] at h
      have h1 := Nat.eq_of_beq_eq_true h.1
      have h2 := Nat.eq_of_beq_eq_true h.2
      subst h1; subst h2
      exact ⟨_, rfl, none, 0, rfl, Nat.le_refl _, fun hne => absurd rfl hne⟩
    · cases h
  | .pair a b, vs, h => by
    simp only [crZ, Bool.and_eq_true] at h
    exact ⟨vs.take a.size, vs.drop a.size, by simp, crZ_ok h.1, crZ_ok h.2⟩

theorem nilV_ok {a b : Value} (h : nilV a b = true) : b = a ∧ a.oneCell' = true := by
  unfold nilV at h
  split at h <;> (try simp only [Bool.and_eq_true, decide_eq_true_eq, beq_iff_eq] at h)
  · exact ⟨rfl, rfl⟩
  · exact ⟨rfl, rfl⟩
  · exact ⟨rfl, rfl⟩
  · exact ⟨rfl, rfl⟩
  · obtain ⟨rfl, rfl⟩ := h; exact ⟨rfl, rfl⟩
  · obtain ⟨rfl, rfl⟩ := h; exact ⟨rfl, rfl⟩
  · subst h; exact ⟨rfl, rfl⟩
  · subst h; exact ⟨rfl, rfl⟩
  · cases h

theorem irZ_ok {E : Env} : ∀ {cs : List Cell} {vs : List Value}, irZ cs vs = true → IR E cs vs
  | [], vs, h => by
    show vs = []
    simpa [irZ] using h
  | c :: cs, vs, h => by
    unfold irZ at h
    split at h
    · split at h
      · rename_i a v vs
        rw [Bool.and_eq_true] at h
        obtain ⟨h1, h2⟩ := h
        obtain ⟨rfl, h3⟩ := nilV_ok h1
        exact ⟨[_], _, rfl, ⟨rfl, h3⟩, irZ_ok h2⟩
      · cases h
    · rename_i k n l
      simp only [Bool.and_eq_true, decide_eq_true_eq] at h
      obtain ⟨⟨⟨h1, h2⟩, rfl⟩, h4⟩ := h
      have h1 := Nat.eq_of_beq_eq_true h1
      have h2 := zeros_eq h2
      rw [h1] at h2
      exact ⟨vs.take n, vs.drop n, by simp, ⟨by simp, h2⟩, irZ_ok h4⟩
    · split at h
      · simp only [Bool.and_eq_true] at h
        obtain ⟨⟨h1, h2⟩, h3⟩ := h
        have h1 := Nat.eq_of_beq_eq_true h1
        have h2 := Nat.eq_of_beq_eq_true h2
        subst h1; subst h2
        exact ⟨[_], _, rfl, ⟨_, rfl, none, 0, rfl, Nat.le_refl _, fun hne => absurd rfl hne⟩, irZ_ok h3⟩
      · cases h
    · cases h

theorem chkFields_ok {P : Program} : ∀ {fs : List (TypeId × Nat)} {F : List Field}, chkFields P fs F = true →
    (∀ (i : Nat) u o, fs[i]? = some (u, o) → ∃ f : Field, F[i]? = some f ∧ f.type = u ∧ f.offset = o) ∧ ∀ f ∈ F, ∃ i, P.info? f.type = some i
  | [], [], _ => ⟨fun i u o h => by simp at h, fun f h => by cases h⟩
  | (u, o) :: fs, f :: F, h => by
    simp only [chkFields, Bool.and_eq_true] at h
    obtain ⟨⟨⟨h1, h2⟩, h3⟩, h4⟩ := h
    obtain ⟨h5, h6⟩ := chkFields_ok h4
    refine ⟨fun i u' o' hi => ?_, fun f' hf => ?_⟩
    · cases i with
      | zero =>
        simp at hi
        obtain ⟨rfl, rfl⟩ := hi
        exact ⟨f, rfl, Nat.eq_of_beq_eq_true h1, Nat.eq_of_beq_eq_true h2⟩
      | succ i => exact h5 i u' o' (by simpa using hi)
    · rcases List.mem_cons.1 hf with rfl | hf
      · exact Option.isSome_iff_exists.1 h3
      · exact h6 f' hf
  | [], _ :: _, h => by cases h
  | _ :: _, [], h => by simp [chkFields] at h

theorem chkTI_ok {P : Program} {t : TypeId} {ti : TI} (h : chkTI P t ti = true) : TyOk P t ti := by
  unfold chkTI at h
  rw [Bool.and_eq_true, Bool.and_eq_true] at h
  obtain ⟨h0, h1, h2⟩ := h
  refine ⟨?_, ?_, fun hc => by unfold chkCmp at h0; rw [hc] at h0; exact h0, fun hag i z hi hz => ?_⟩
  · unfold chkDesc at h1
    split at h1 <;> rename_i hd hu <;> simp only [DescOk, hd]
    · simp only [decide_eq_true_eq] at h1; subst h1; exact hu
    · exact hu
    · exact hu
    · have := Nat.eq_of_beq_eq_true h1; subst this; exact hu
    · obtain ⟨h3, h4⟩ := chkFields_ok h1
      refine ⟨_, hu, fun i u o hi => ?_, fun f hf => h4 f (by simpa using hf)⟩
      obtain ⟨f, h5, h6⟩ := h3 i u o hi
      exact ⟨f, by rw [← Array.getElem?_toList]; exact h5, h6⟩
    · rw [Bool.and_eq_true] at h1
      have e1 := Nat.eq_of_beq_eq_true h1.1
      have e2 := Nat.eq_of_beq_eq_true h1.2
      subst e1; subst e2; exact hu
    · have := Nat.eq_of_beq_eq_true h1; subst this; exact hu
    · exact ⟨_, hu⟩
    · rw [Bool.and_eq_true] at h1
      have e1 := Nat.eq_of_beq_eq_true h1.1
      have e2 := Nat.eq_of_beq_eq_true h1.2
      subst e1; subst e2; exact hu
    · exact ⟨_, hu, by simpa using h1⟩
    · cases h1
  · split at h2
    · cases h2
    · rename_i i hi
      split at h2
      · cases h2
      · rename_i z hz
        simp only [Bool.and_eq_true] at h2
        obtain ⟨⟨⟨⟨⟨e1, e2⟩, e3⟩, e4⟩, _⟩, e5⟩ := h2
        refine ⟨i, z, hi, Nat.eq_of_beq_eq_true e1, Nat.eq_of_beq_eq_true e2, hz, fun E => irZ_ok e3, Nat.eq_of_beq_eq_true e4, fun u hu => ?_⟩
        rw [hu] at e5
        simp only [Bool.and_eq_true] at e5
        exact ⟨Nat.eq_of_beq_eq_true e5.1, fun w S => crZ_ok e5.2⟩
  · rw [hi] at h2
    simp only [hz, Bool.and_eq_true, Bool.or_eq_true] at h2
    rcases h2.1.2 with h | h
    · rw [hag] at h; cases h
    · exact notAgg_ok h

theorem chkTree_ok {P : Program} : ∀ {T : TTree}, chkTree P T = true → ∀ t ti, T.get t = some ti → TyOk P t ti
  | .leaf, _, t, ti, h => by cases h
  | .node k ti l r, h, t, ti', hg => by
    simp only [chkTree, Bool.and_eq_true] at h
    unfold TTree.get at hg
    split at hg
    · rename_i hb
      injection hg with hg
      subst hg
      rw [Nat.eq_of_beq_eq_true hb]
      exact chkTI_ok h.1.1
    · split at hg
      · exact chkTree_ok h.1.2 t ti' hg
      · exact chkTree_ok h.2 t ti' hg

def fnOf (f : Nat) : List (Nat × CSpec) → Option CSpec
  | [] => none
  | (g, s) :: r => match Nat.beq f g with | true => some s | false => fnOf f r
def tab (T : TTree) (fs : List (Nat × CSpec)) : Tab := { ty := fun t => T.get t, fn := fun f => fnOf f fs, meth := fun _ _ => none }
theorem tab_ok {P : Program} {T : TTree} {fs : List (Nat × CSpec)} (h : chkTree P T = true) : TabOk P (tab T fs) :=
  ⟨chkTree_ok h, fun t name f hm => by cases hm⟩
def Good (P : Program) (f : Nat) (s : CSpec) : Prop := CSound P f s ∧ Enters P f
theorem specs_nil {P : Program} {T : TTree} : SpecsOk P (tab T []) := fun f s h => by cases h
theorem specs_cons {P : Program} {T : TTree} {fs : List (Nat × CSpec)} {g : Nat} {s : CSpec} (h : Good P g s) (hr : SpecsOk P (tab T fs)) : SpecsOk P (tab T ((g, s) :: fs)) := by
  intro f s' hs
  have hs : fnOf f ((g, s) :: fs) = some s' := hs
  unfold fnOf at hs
  split at hs
  · rename_i hb
    injection hs with hs
    subst hs
    rw [Nat.eq_of_beq_eq_true hb]
    exact h
  · exact hr f s' hs

end Go.Fw
