/- Code, loops, what a function leaves at its end. -/
import Derived.Test.YtblnigjmcjpopaaFw20
import Derived.Tactics
import Derived.LoopN
namespace Go.Fw
set_option linter.unusedVariables false
set_option linter.unusedSimpArgs false

abbrev Cont := Exit → St → Prop

def Cov (K : Cont) (E0 : Env) (Q : Exit → Act → World → Prop) : Prop :=
  ∀ e st' E' a', K e st' → Sim st' E' a' → Fr E0 E' → Q e a' E'.w

/-- from this abstract state the code ends only as K says -/
def Does (P : Program) (m : Nat) (c : Code) (st : St) (K : Cont) : Prop :=
  ∀ E0 Q E a, (∀ b, E0.U b → b < m) → Sim st E a → Fr E0 E → Cov K E0 Q → c.wp P Q a E.w

inductive LoopG (P : Program) (m : Nat) (c : Code) (st : St) (K : Cont) : Prop where
  | mk : Does P m (.loop c) st K → LoopG P m c st K
inductive DrawG (P : Program) (m : Nat) (id : Nat) (ops : Array Oper) (st : St) (K : St → Prop) : Prop where
  | mk : Does P m (.region id ops true) st (fun e st' => e = .normal ∧ K st') → DrawG P m id ops st K

def putB (st : St) (c : Operand) (b : Bool) : St := match c with | .tmp t => st.put (some t) (.cell (bv b)) | _ => st

/-- THE EVALUATOR OF CODE: stops at loops and at regions whose order is drawn -/
def ex (P : Program) (T : Tab) (m : Nat) : Code → St → Cont → Prop
  | .skip, st, K => K .normal st
  | .label _, st, K => K .normal st
  | .seq x y, st, K => ex P T m x st fun e st' => match e with
    | .normal => ex P T m y st' K
    | .exit i => K (.exit i) st'
    | .ret => K .ret st'
    | _ => False
  | .cond c x y, st, K => match st.eval c with
    | .one (.c (.imm (.bool b))) => Br b (fSt (putB st c true) fun st => ex P T m x st K) (fSt (putB st c false) fun st => ex P T m y st K)
    | _ => False
  | .block id c, st, K => ex P T m c st fun e st' => match e with
    | .normal => K .normal st'
    | .exit i => (match Nat.beq i id with | true => K .normal st' | false => K (.exit i) st')
    | .ret => K .ret st'
    | _ => False
  | .loop c, st, K => LoopG P m c st K
  | .exit i, st, K => K (.exit i) st
  | .ret, st, K => K .ret st
  | .region id ops d, st, K => match d with
    | false => exOps T ops ops.toList st fun st' => K .normal st'
    | true => DrawG P m id ops st fun st' => K .normal st'
  | _, _, _ => False

section
variable {P : Program} {T : Tab}

theorem Sim.lit {st : St} {E : Env} {a : Act} (h : Sim st E a) {c : Operand} {b : Bool} (hc : st.eval c = .one (.c (.imm (.bool b)))) : Sim (putB st c b) E a ∧ a.eval c = .bool b := by
  have h1 := h.eval c
  rw [hc] at h1
  obtain ⟨h1, _⟩ := h1
  injection h1 with h1
  refine ⟨?_, h1⟩
  unfold putB
  split
  · rename_i t
    refine h.same ?_
    have : a.tmps.getD t undef = .bool b := h1
    rw [this]
    exact ⟨rfl, rfl⟩
  · exact h

theorem ex_sound (hT : TabOk P T) (hP : SpecsOk P T) {m : Nat} : ∀ (c : Code) {st : St} {K : Cont}, ex P T m c st K → Does P m c st K := by
  intro c
  induction c with
  | skip => intro st K h E0 Q E a hm hs hf hc; exact wp_skip (hc _ _ _ _ h hs hf)
  | label l => intro st K h E0 Q E a hm hs hf hc; exact wp_label (hc _ _ _ _ h hs hf)
  | exit i => intro st K h E0 Q E a hm hs hf hc; exact wp_exit (hc _ _ _ _ h hs hf)
  | ret => intro st K h E0 Q E a hm hs hf hc; exact wp_ret (hc _ _ _ _ h hs hf)
  | seq x y hx hy =>
    intro st K h E0 Q E a hm hs hf hc
    unfold ex at h
    refine wp_seq (hx h E0 _ E a hm hs hf ?_)
    intro e st' E' a' hk hs' hf'
    cases e with
    | normal => exact hy hk E0 Q E' a' hm hs' hf' hc
    | exit i => exact hc _ _ _ _ hk hs' hf'
    | ret => exact hc _ _ _ _ hk hs' hf'
    | goto l => exact hk.elim
    | panic ch => exact hk.elim
    | outgrown => exact hk.elim
  | cond c x y hx hy =>
    intro st K h E0 Q E a hm hs hf hc
    unfold ex at h
    split at h
    · rename_i b hb
      obtain ⟨hs', he⟩ := hs.lit hb
      rw [fSt_eq, fSt_eq] at h
      cases b with
      | true => exact wp_cond_true he (hx h E0 Q E a hm hs' hf hc)
      | false => exact wp_cond_false he (hy h E0 Q E a hm hs' hf hc)
    · exact h.elim
  | block id c hx =>
    intro st K h E0 Q E a hm hs hf hc
    unfold ex at h
    refine wp_block (hx h E0 _ E a hm hs hf ?_)
    intro e st' E' a' hk hs' hf'
    cases e with
    | normal => exact hc _ _ _ _ hk hs' hf'
    | exit i =>
      simp only [Exit.inBlock]
      simp only at hk
      split at hk
      · rename_i hb
        rw [if_pos (Nat.eq_of_beq_eq_true hb)]
        exact hc _ _ _ _ hk hs' hf'
      · rename_i hb
        rw [if_neg (fun e => by subst e; simp at hb)]
        exact hc _ _ _ _ hk hs' hf'
    | ret => exact hc _ _ _ _ hk hs' hf'
    | goto l => exact hk.elim
    | panic ch => exact hk.elim
    | outgrown => exact hk.elim
  | loop c hx => intro st K h; cases h with | mk h => exact h
  | region id ops d =>
    intro st K h E0 Q E a hm hs hf hc
    unfold ex at h
    cases d with
    | true =>
      cases h with
      | mk h =>
        refine h E0 Q E a hm hs hf ?_
        rintro e st' E' a' ⟨rfl, hk⟩ hs' hf'
        exact hc _ _ _ _ hk hs' hf'
    | false =>
      refine wp_region ?_
      rw [List.range_eq_range']
      have := exOps_sound (Q := Q) hT hP ops.toList 0 (by simp) h hs hf fun st' E' a' h1 h2 h3 => hc _ _ _ _ h3 h1 h2
      simpa using this
  | _ => intro st K h; exact h.elim

-- loops

theorem has_min {p : Nat → Prop} (h : ∃ n, p n) : ∃ n, p n ∧ ∀ k, p k → n ≤ k := by
  obtain ⟨n, hn⟩ := h
  induction n using Nat.strongRecOn with
  | _ n ih =>
    by_cases hs : ∃ k, k < n ∧ p k
    · obtain ⟨k, hk, hp⟩ := hs; exact ih k hk hp
    · exact ⟨n, hn, fun k hk => by rcases Nat.lt_or_ge k n with h | h; exact absurd ⟨k, h, hk⟩ hs; exact h⟩

open Classical in
noncomputable def least (p : Nat → Prop) : Nat := if h : ∃ n, p n then Classical.choose (has_min h) else 0
theorem least_at {p : Nat → Prop} (h : ∃ n, p n) : p (least p) := by
  unfold least; rw [dif_pos h]; exact (Classical.choose_spec (has_min h)).1
theorem least_le {p : Nat → Prop} {n : Nat} (h : p n) : least p ≤ n := by
  unfold least; rw [dif_pos ⟨n, h⟩]; exact (Classical.choose_spec (has_min ⟨n, h⟩)).2 n h

/-- the same world, seen less sharply -/
def Le (m : Nat) (st st' : St) : Prop :=
  ∀ E0 E a, (∀ b, E0.U b → b < m) → Sim st E a → Fr E0 E → ∃ E', E'.w = E.w ∧ Sim st' E' a ∧ Fr E0 E'

theorem Le.refl (m : Nat) (st : St) : Le m st st := fun E0 E a _ hs hf => ⟨E, rfl, hs, hf⟩

theorem loop_rule {X : Type} {m : Nat} {c : Code} {st : St} {K : Cont} (S : X → St) (I : X → Prop) (μ : X → Nat) (x0 : X) (h0 : Le m st (S x0)) (hI : I x0)
    (h : ∀ x, I x → Does P m c (S x) fun e st' => match e with | .normal => ∃ x', I x' ∧ μ x' < μ x ∧ Le m st' (S x') | e => K e st') : LoopG P m c st K := by
  refine .mk fun E0 Q E a hm hs hf hc => ?_
  let at_ : Act → World → Nat → Prop := fun a w n => ∃ x E, I x ∧ μ x = n ∧ E.w = w ∧ Sim (S x) E a ∧ Fr E0 E
  refine wp_loop (fun a w => ∃ n, at_ a w n) (fun a w => least (at_ a w)) ?_ ?_
  · obtain ⟨E', e, h1, h2⟩ := h0 E0 E a hm hs hf
    exact ⟨_, x0, E', hI, rfl, e, h1, h2⟩
  · intro a w hn
    obtain ⟨x, E, hIx, hμ, rfl, h1, h2⟩ := least_at hn
    refine h x hIx E0 _ E a hm h1 h2 ?_
    intro e st' E' a' hk hs' hf'
    cases e with
    | normal =>
      obtain ⟨x', hI', hlt, hle⟩ := hk
      obtain ⟨E'', e, h3, h4⟩ := hle E0 E' a' hm hs' hf'
      have hat : at_ a' E'.w (μ x') := ⟨x', E'', hI', rfl, e, h3, h4⟩
      refine ⟨⟨_, hat⟩, ?_⟩
      have := least_le hat
      show least (at_ a' E'.w) < least (at_ a E.w)
      rw [← hμ]
      omega
    | _ => exact hc _ _ _ _ hk hs' hf'

/-- at most so many rounds -/
def RD (P : Program) (m : Nat) (c : Code) (K : Cont) : Nat → St → Prop
  | 0, _ => False
  | n + 1, st => Does P m c st fun e st' => match e with | .normal => RD P m c K n st' | e => K e st'
inductive RoundG (P : Program) (m : Nat) (c : Code) (K : Cont) (n : Nat) (st : St) : Prop where
  | mk : RD P m c K n st → RoundG P m c K n st

theorem RD_rounds {m : Nat} {c : Code} {K : Cont} {E0 : Env} {Q : Exit → Act → World → Prop} (hm : ∀ b, E0.U b → b < m) (hc : Cov K E0 Q) : ∀ (n : Nat) {st : St} {E : Env} {a : Act}, RD P m c K n st → Sim st E a → Fr E0 E → Code.rounds P c Q n a E.w
  | 0, _, _, _, h, _, _ => h.elim
  | n + 1, st, E, a, h, hs, hf => by
    refine h E0 _ E a hm hs hf ?_
    intro e st' E' a' hk hs' hf'
    cases e with
    | normal => exact RD_rounds hm hc n hk hs' hf'
    | _ => exact hc _ _ _ _ hk hs' hf'

theorem loop_unroll {m : Nat} {c : Code} {st : St} {K : Cont} (n : Nat) (h : RoundG P m c K n st) : LoopG P m c st K :=
  .mk fun E0 Q E a hm hs hf hc => wp_loop_rounds n (by cases h with | mk h => exact RD_rounds hm hc n h hs hf)
theorem round_ {m n : Nat} {c : Code} {st : St} {K : Cont} (h : Does P m c st fun e st' => match e with | .normal => RoundG P m c K n st' | e => K e st') : RoundG P m c K (n + 1) st := by
  refine .mk fun E0 Q E a hm hs hf hc => h E0 Q E a hm hs hf ?_
  intro e st' E' a' hk hs' hf'
  refine hc e st' E' a' ?_ hs' hf'
  cases e with
  | normal => cases hk with | mk hk => exact hk
  | _ => exact hk

theorem Does.mono {m : Nat} {c : Code} {st : St} {K K' : Cont} (h : Does P m c st K) (hk : ∀ e st', K e st' → K' e st') : Does P m c st K' :=
  fun E0 Q E a hm hs hf hc => h E0 Q E a hm hs hf fun e st' E' a' h1 h2 h3 => hc e st' E' a' (hk _ _ h1) h2 h3

end
end Go.Fw
