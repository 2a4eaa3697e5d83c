/- Numbers, bools, strings; values built. -/
import Derived.Test.YtblnigjmcjpopaaFw34
import Derived.Laws.Small
namespace Go.Fw
set_option linter.unusedVariables false
set_option linter.unusedSimpArgs false

section
variable {P : Program} {T : Tab}

theorem bin_run {E : Env} (hT : TabOk P T) (hH : HeapOk E) {op : BinOp} {a b : AV} {va vb : Value} {r : Res} {t : TypeId} (ha : AVR E a va) (hb : AVR E b vb) (h : binA T t op a b = some r) (hp : ∀ p, r.pre = some p → p) (x y : Operand) (w : World) :
    ∃ v, (do eqGuard op t x y va vb; binOp op t va vb : Sem Value).run P w = .ok v w ∧ AVR E r.val v ∧ r.add = [] ∧ r.set = [] := by
  unfold binA at h
  split at h
  · rename_i k m k' n
    obtain ⟨e, _⟩ := ha
    injection e with e
    subst e
    obtain ⟨e, _⟩ := hb
    injection e with e
    subst e
    have hg : ∀ op, eqGuard op t x y (.int k m) (.int k' n) = pure () := fun op => eqGuard_at_int ..
    split at h
    · simp only [okP, Option.some.injEq] at h
      subst h
      have h0 := hp _ rfl
      refine ⟨_, ?_, ⟨rfl, rfl⟩, rfl, rfl⟩
      have hn : ¬ n < 0 := by omega
      simp [hg, binOp, Op.shift, hn]
      rfl
    · simp only [okP, Option.some.injEq] at h
      subst h
      have h0 := hp _ rfl
      refine ⟨_, ?_, ⟨rfl, rfl⟩, rfl, rfl⟩
      have hn : ¬ n < 0 := by omega
      simp [hg, binOp, Op.shift, hn]
      rfl
    · rename_i h1 h2
      split at h
      · rename_i hk
        have hkk : k = k' := of_decide_eq_true hk
        subst hkk
        unfold intOp at h
        cases op <;> simp only at h <;> first
          | (simp only [ok1, Option.some.injEq] at h; subst h; refine ⟨_, ?_, ⟨rfl, rfl⟩, rfl, rfl⟩; simp [hg, binOp, Op.intArith, Op.intCmp]; done)
          | (simp only [ok1, Option.some.injEq] at h; subst h; refine ⟨_, ?_, ⟨rfl, rfl⟩, rfl, rfl⟩; simp [hg, binOp]; rfl)
          | (simp only [okP, Option.some.injEq] at h; subst h; have h0 := hp _ rfl; refine ⟨_, ?_, ⟨rfl, rfl⟩, rfl, rfl⟩; simp [hg, binOp, Op.intDiv, h0]; done)
          | (cases h; done)
      · cases h
  · rename_i s u
    obtain ⟨e, _⟩ := ha
    injection e with e
    subst e
    obtain ⟨e, _⟩ := hb
    injection e with e
    subst e
    have hg : ∀ op, eqGuard op t x y (.string s) (.string u) = pure () := fun op => eqGuard_at_string ..
    split at h
    · simp only [ok1, Option.some.injEq] at h
      subst h
      exact ⟨_, by simp [hg, binOp, Op.stringOp]; rfl, ⟨rfl, rfl⟩, rfl, rfl⟩
    · simp only [ok1, Option.some.injEq] at h
      subst h
      exact ⟨_, by simp [hg, binOp, Op.stringOp]; rfl, ⟨rfl, rfl⟩, rfl, rfl⟩
    · simp only [Option.some.injEq] at h
      subst h
      have h0 := hp _ rfl
      refine ⟨_, ?_, ⟨rfl, rfl⟩, rfl, rfl⟩
      have hn : ¬ ((s.size : Int) + (u.size : Int) > IntKind.i64.max) := by
        have : IntKind.i64.max = 9223372036854775807 := by decide
        rw [this]
        omega
      have hn' : ¬ ((s.size + u.size : Nat) : Int) > IntKind.i64.max := by simpa using hn
      simp only [hg, binOp, Op.stringOp, if_neg hn']
      rfl
    · cases h
  · rename_i s u
    obtain ⟨e, _⟩ := ha
    injection e with e
    subst e
    obtain ⟨e, _⟩ := hb
    injection e with e
    subst e
    have hg : ∀ op, eqGuard op t x y (.bool s) (.bool u) = pure () := fun op => eqGuard_at_bool ..
    split at h
    · rename_i ht
      have hu := (hT.ty t _ ht).und
      simp only [DescOk] at hu
      have heq := fun w => run_equal_bool (P := P) (w := w) t s u hu
      split at h
      · simp only [ok1, Option.some.injEq] at h
        subst h
        exact ⟨_, by simp [hg, binOp, heq], ⟨rfl, rfl⟩, rfl, rfl⟩
      · simp only [ok1, Option.some.injEq] at h
        subst h
        exact ⟨_, by simp [hg, binOp, heq], ⟨rfl, rfl⟩, rfl, rfl⟩
      · cases h
    · cases h
  · rename_i cx cy
    obtain ⟨xs, rfl, hx⟩ := ha
    obtain ⟨ys, rfl, hy⟩ := hb
    split at h
    · rename_i ti hti
      split at h
      · rename_i u hc hu
        split at h
        · rename_i dx ux dy uy hdx hdy
          have hok := (hT.ty t _ hti).cmp hc
          rw [hu] at hok
          simp only [cmpOk, Bool.and_eq_true, Bool.not_eq_true'] at hok
          obtain ⟨⟨⟨k1, k2⟩, k3⟩, k4⟩ := hok
          have rx := decAll_rel hH (fun b x hx => by cases hx) hdx hx
          have ry := decAll_rel hH (fun b x hx => by cases hx) hdy hy
          have rx' : CR E.w (fun _ => True) u dx xs.toList := rx.mono fun g _ => ⟨trivial, rfl⟩
          have ry' : CR E.w (fun _ => True) u dy ys.toList := ry.mono fun g _ => ⟨trivial, rfl⟩
          have heq := fun w => eq_den 30 30 u t k3 k2 10000 (by omega) w E.w _ (.agg xs) (.agg ys) xs.toList ys.toList dx dy (.inl ⟨by simp, k1⟩) (.inl ⟨by simp, k1⟩) rx' ry'
          have hg := fun op w => run_eqGuard_agg (P := P) w op t x y xs ys k4
          split at h
          · simp only [ok1, Option.some.injEq] at h
            subst h
            exact ⟨_, by simp only [Sem.run_bind, hg, Result.andThen_ok, run_eql_struct, heq], ⟨rfl, rfl⟩, rfl, rfl⟩
          · simp only [ok1, Option.some.injEq] at h
            subst h
            exact ⟨_, by simp only [Sem.run_bind, hg, Result.andThen_ok, run_neq_struct, heq], ⟨rfl, rfl⟩, rfl, rfl⟩
          · cases h
        · cases h
      · cases h
    · cases h
  · cases h

theorem un_run {E : Env} {op : UnOp} {a : AV} {va : Value} {r : Res} (ha : AVR E a va) (h : unA op a = some r) (w : World) :
    ∃ v, (Op.unary op va).run P w = .ok v w ∧ AVR E r.val v ∧ r.add = [] ∧ r.set = [] ∧ r.pre = none := by
  unfold unA at h
  split at h
  · simp only [ok1, Option.some.injEq] at h
    subst h
    obtain ⟨e, _⟩ := ha
    injection e with e
    subst e
    exact ⟨_, by simp [Op.unary, Op.intArith], ⟨rfl, rfl⟩, rfl, rfl, rfl⟩
  · simp only [ok1, Option.some.injEq] at h
    subst h
    obtain ⟨e, _⟩ := ha
    injection e with e
    subst e
    exact ⟨_, by simp [Op.unary, Op.intBits]; rfl, ⟨rfl, rfl⟩, rfl, rfl, rfl⟩
  · simp only [ok1, Option.some.injEq] at h
    subst h
    obtain ⟨e, _⟩ := ha
    injection e with e
    subst e
    exact ⟨_, by simp [Op.unary], ⟨rfl, rfl⟩, rfl, rfl, rfl⟩
  · cases h

def VasR (E : Env) : List AV → List Value → Prop
  | [], vs => vs = []
  | x :: xs, vs => ∃ v r, vs = v :: r ∧ AVR E x v ∧ VasR E xs r

theorem asInt?_rel {E : Env} {a : AV} {v : Value} {y : Int} (h : asInt? a = some y) (ha : AVR E a v) : ∃ k, v = .int k y := by
  unfold asInt? at h
  split at h
  · injection h with h
    subst h
    obtain ⟨e, _⟩ := ha
    injection e with e
    exact ⟨_, e⟩
  · cases h

theorem maxI_run {E : Env} {k : IntKind} : ∀ {xs : List AV} {vs : List Value} {x : Int} {r : AV}, VasR E xs vs → maxI k x xs = some r → ∀ w, ∃ v, (vs.foldlM Builtin.max2 (.int k x)).run P w = .ok v w ∧ AVR E r v
  | [], _, x, r, hv, h, w => by
    simp only [VasR] at hv; subst hv
    simp only [maxI, Option.some.injEq] at h
    subst h
    exact ⟨_, by simp, ⟨rfl, rfl⟩⟩
  | a :: xs, _, x, r, ⟨v, vs, e, ha, hv⟩, h, w => by
    subst e
    unfold maxI at h
    cases hi : asInt? a with
    | none => rw [hi] at h; cases h
    | some y =>
      rw [hi] at h
      obtain ⟨k', rfl⟩ := asInt?_rel hi ha
      obtain ⟨v', h3, h4⟩ := maxI_run hv h w
      unfold imax at h3
      exact ⟨v', by simpa [Builtin.max2] using h3, h4⟩

theorem minI_run {E : Env} {k : IntKind} : ∀ {xs : List AV} {vs : List Value} {x : Int} {r : AV}, VasR E xs vs → minI k x xs = some r → ∀ w, ∃ v, (vs.foldlM Builtin.min2 (.int k x)).run P w = .ok v w ∧ AVR E r v
  | [], _, x, r, hv, h, w => by
    simp only [VasR] at hv; subst hv
    simp only [minI, Option.some.injEq] at h
    subst h
    exact ⟨_, by simp, ⟨rfl, rfl⟩⟩
  | a :: xs, _, x, r, ⟨v, vs, e, ha, hv⟩, h, w => by
    subst e
    unfold minI at h
    cases hi : asInt? a with
    | none => rw [hi] at h; cases h
    | some y =>
      rw [hi] at h
      obtain ⟨k', rfl⟩ := asInt?_rel hi ha
      obtain ⟨v', h3, h4⟩ := minI_run hv h w
      unfold imin at h3
      exact ⟨v', by simpa [Builtin.min2] using h3, h4⟩

end
end Go.Fw
