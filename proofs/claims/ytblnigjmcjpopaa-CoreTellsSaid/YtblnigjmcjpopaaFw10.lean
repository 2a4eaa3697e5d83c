/- Slicing; addresses of fields and elements; parts of values. -/
import Derived.Test.YtblnigjmcjpopaaFw9
namespace Go.Fw
set_option linter.unusedVariables false
set_option linter.unusedSimpArgs false

section
variable {P : Program} {T : Tab}

theorem addadd (ad : Addr) (i j : Nat) : (ad.add i).add j = ad.add (i + j) := by
  unfold Addr.add
  by_cases h1 : i = 0 <;> by_cases h2 : j = 0 <;> simp [h1, h2, Nat.add_assoc]

theorem cut_ro {α : Type} {w : World} {S : Nat → Prop} {R : α → List Value → Prop} {n : Nat} (hn : ∀ x vs, R x vs → vs.length = n) {l : List α} {ad : Option Addr} {cap a b : Nat} (h : SlR w S R l (.slice ad l.length cap)) (hab : a ≤ b) (hb : b ≤ l.length) :
    SlR w S R ((l.take b).drop a) (.slice (if cap = a then ad else ad.map (·.add (a * n))) (b - a) (cap - a)) := by
  obtain ⟨ad', cap', e, hc, hh⟩ := h
  injection e with e1 e2 e3
  subst e1 e3
  have hlen : ((l.take b).drop a).length = b - a := by simp; omega
  refine ⟨_, _, by rw [hlen], by rw [hlen]; omega, fun hne => ?_⟩
  have hpos : a < b := by
    rcases Nat.lt_or_ge a b with h | h
    · exact h
    · exact absurd (List.eq_nil_of_length_eq_zero (by omega)) hne
  obtain ⟨x, us, rfl, hs, hlr, hcell⟩ := hh (by intro e; subst e; simp at hb; omega)
  rw [if_neg (by omega)]
  have h1 := (hlr.take_drop hn b).1
  have h2 := (h1.take_drop hn a).2
  refine ⟨x.add (a * n), _, rfl, by rw [show (x.add (a * n)).block = x.block from by unfold Addr.add; split <;> rfl]; exact hs, h2, fun k u hu => ?_⟩
  rw [addadd]
  refine hcell _ _ ?_
  rw [List.getElem?_drop, List.getElem?_take] at hu
  split at hu
  · exact hu
  · cases hu

theorem slice_run {E : Env} {look : Nat → Option Blk} (hT : TabOk P T) (hH : HeapOk E) (hl : ∀ b x, look b = some x → E.H b = some x) {t : TypeId} {x : AV} {lo hi mx : Option AV} {vx : Value} {vlo vhi vmx : Option Value} {r : Res}
    (hx : AVR E x vx) (h1 : OptR E lo vlo) (h2 : OptR E hi vhi) (h3 : OptR E mx vmx) (h : sliceA T look t x lo hi mx = some r) (hp : ∀ p, r.pre = some p → p) :
    ∃ v, (Instr.sliceAt t vx vlo vhi vmx).run P E.w = .ok v E.w ∧ AVR E r.val v ∧ r.add = [] ∧ r.set = [] := by
  unfold sliceA at h
  cases mx with
  | some _ => cases h
  | none =>
  cases vmx with
  | some _ => simp only [OptR] at h3
  | none =>
  simp only at h
  split at h
  · -- strings
    rename_i ht
    have hu := (hT.ty t _ ht).und
    simp only [DescOk] at hu
    obtain ⟨e, _⟩ := hx
    injection e with e
    subst e
    split at h
    · rename_i p a b hb
      simp only [okP, Option.some.injEq] at h
      subst h
      obtain ⟨_, _, hrun⟩ := boundsA_run (P := P) h1 h2 hb (hp _ rfl)
      exact ⟨_, by simp [Instr.sliceAt, run_underlying hu, Instr.slice, hrun false _ E.w (Nat.le_refl _)], ⟨rfl, rfl⟩, rfl, rfl⟩
    · cases h
  · -- slices that are read
    rename_i e _ _ _ _ _ u l ht
    have hu := (hT.ty t _ ht).und
    simp only [DescOk] at hu
    split at h
    · rename_i p a b ti hb hti
      split at h
      · rename_i hsz
        simp only [okP, Option.some.injEq] at h
        subst h
        obtain ⟨hab, hbl, hrun⟩ := boundsA_run (P := P) h1 h2 hb (hp _ rfl)
        have hs := Nat.eq_of_beq_eq_true hsz
        obtain ⟨v, e, hsl⟩ := hx
        injection e with e
        subst e
        obtain ⟨ad, cap, rfl, hc, hh⟩ := hsl
        refine ⟨_, ?_, ⟨_, rfl, cut_ro (n := u.size) (fun _ _ hx => hx.len) ⟨ad, cap, rfl, hc, hh⟩ hab hbl⟩, rfl, rfl⟩
        simp [Instr.sliceAt, run_underlying hu, Instr.slice, hrun true _ E.w hc, (hT.ty e ti hti).sizeOf, hs]
      · cases h
    · cases h
  · -- a block as a whole
    rename_i e _ _ _ _ _ b ht
    have hu := (hT.ty t _ ht).und
    simp only [DescOk] at hu
    split at h
    · rename_i u l ti hb hti
      have hbx := hl _ _ hb
      split at h
      · rename_i hsz
        have hs := Nat.eq_of_beq_eq_true hsz
        obtain ⟨v, ⟨e, hv1⟩, hU, hh⟩ := hx
        injection e with e
        subst e
        split at h
        · simp only [ok1, Option.some.injEq] at h
          subst h
          cases vlo <;> cases vhi <;> simp only [OptR] at h1 h2
          rcases hh _ _ hbx with ⟨hr, rfl⟩ | ⟨g, cs, el, cap, hr, hw, rfl, hc, hsz'⟩
          · refine ⟨.slice none 0 0, ?_, ⟨_, ⟨rfl, rfl⟩, hU, hh⟩, rfl, rfl⟩
            simp [Instr.sliceAt, run_underlying hu, Instr.slice, Instr.sliceBounds, (hT.ty _ ti hti).sizeOf]
          · refine ⟨.slice (some ⟨g, 0, none⟩) l.length cap, ?_, ⟨_, ⟨rfl, rfl⟩, hU, hh⟩, rfl, rfl⟩
            simp [Instr.sliceAt, run_underlying hu, Instr.slice, Instr.sliceBounds, (hT.ty _ ti hti).sizeOf, Addr.add]
        · split at h
          · rename_i p a c hbd
            simp only [okP, Option.some.injEq] at h
            subst h
            obtain ⟨hab, hbl, hrun⟩ := boundsA_run (P := P) h1 h2 hbd (hp _ rfl)
            rcases hh _ _ hbx with ⟨hr, rfl⟩ | ⟨g, cs, el, cap, hr, hw, rfl, hc, hsz'⟩
            · obtain ⟨_, hbr, _⟩ := hH.blk _ _ hbx
              rcases hbr with ⟨_, rfl⟩ | ⟨g, _, _, _, _, h6, _⟩
              · simp at hbl
                have : a = 0 := by omega
                subst this hbl
                refine ⟨.slice none 0 0, ?_, ⟨_, ⟨rfl, rfl⟩, hU, fun t' l' h' => ⟨Nat.zero_le _, .inl ⟨hr, rfl, rfl⟩⟩⟩, rfl, rfl⟩
                have := hrun true 0 E.w (Nat.le_refl _)
                simp at this
                simp [Instr.sliceAt, run_underlying hu, Instr.slice, this, (hT.ty _ ti hti).sizeOf]
              · rw [hr] at h6; cases h6
            · refine ⟨_, by simp [Instr.sliceAt, run_underlying hu, Instr.slice, hrun true _ E.w hc, (hT.ty _ ti hti).sizeOf, hs]; exact rfl, ⟨_, ⟨rfl, rfl⟩, hU, fun t' l' h' => ?_⟩, rfl, rfl⟩
              rw [hbx] at h'
              injection h' with h'
              injection h' with e1 e2
              subst e1
              have e2 := eq_of_heq e2
              subst e2
              refine ⟨by omega, ?_⟩
              by_cases hca : cap = a
              · rw [if_pos hca]
                exact .inr ⟨g, _, _, hr, rfl, by omega, fun hpos => by omega⟩
              · rw [if_neg hca]
                exact .inr ⟨g, _, _, hr, rfl, by omega, fun _ => by simp [add_at]⟩
          · cases h
      · cases h
    · cases h
  · -- a part of a block
    rename_i e _ _ _ _ _ b off len ht
    have hu := (hT.ty t _ ht).und
    simp only [DescOk] at hu
    split at h
    · rename_i u l ti hb hti
      have hbx := hl _ _ hb
      split at h
      · rename_i hsz
        have hs := Nat.eq_of_beq_eq_true hsz
        split at h
        · rename_i p a c hbd
          simp only [okP, Option.some.injEq] at h
          subst h
          obtain ⟨hab, hbl, hrun⟩ := boundsA_run (P := P) h1 h2 hbd (hp _ rfl)
          obtain ⟨v, ⟨e, hv1⟩, hU, hh⟩ := hx
          injection e with e
          subst e
          obtain ⟨h0, hh⟩ := hh _ _ hbx
          rcases hh with ⟨hr, rfl, rfl⟩ | ⟨g, ad, cap, hr, rfl, hc, had⟩
          · have hc0 : c = 0 := by omega
            have ha0 : a = 0 := by omega
            subst hc0 ha0
            refine ⟨.slice none 0 0, ?_, ⟨_, ⟨rfl, rfl⟩, hU, fun t' l' h' => ?_⟩, rfl, rfl⟩
            · simp [Instr.sliceAt, run_underlying hu, Instr.slice, hrun true 0 E.w (Nat.le_refl _), (hT.ty _ ti hti).sizeOf]
            · rw [hbx] at h'
              injection h' with h'
              injection h' with e1 e2
              subst e1
              have e2 := eq_of_heq e2
              subst e2
              exact ⟨by omega, .inl ⟨hr, rfl, rfl⟩⟩
          · refine ⟨_, by simp [Instr.sliceAt, run_underlying hu, Instr.slice, hrun true _ E.w hc, (hT.ty _ ti hti).sizeOf, hs]; exact rfl, ⟨_, ⟨rfl, rfl⟩, hU, fun t' l' h' => ?_⟩, rfl, rfl⟩
            rw [hbx] at h'
            injection h' with h'
            injection h' with e1 e2
            subst e1
            have e2 := eq_of_heq e2
            subst e2
            refine ⟨by omega, ?_⟩
            by_cases hca : cap = a
            · rw [if_pos hca]
              exact .inr ⟨g, _, _, hr, rfl, by omega, fun hpos => by omega⟩
            · rw [if_neg hca]
              refine .inr ⟨g, _, _, hr, rfl, by omega, fun hpos => ?_⟩
              rw [had (by omega), add_at, Nat.add_mul]
        · cases h
      · cases h
    · cases h
  · -- nil
    rename_i ht
    have hu := (hT.ty t _ ht).und
    simp only [DescOk] at hu
    split at h
    · rename_i p a c ti hbd hti
      simp only [okP, Option.some.injEq] at h
      subst h
      obtain ⟨hab, hbl, hrun⟩ := boundsA_run (P := P) h1 h2 hbd (hp _ rfl)
      have hc0 : c = 0 := by omega
      have ha0 : a = 0 := by omega
      subst hc0 ha0
      obtain ⟨e, hv1⟩ := hx
      injection e with e
      subst e
      refine ⟨.slice none 0 0, ?_, ⟨rfl, rfl⟩, rfl, rfl⟩
      simp [Instr.sliceAt, run_underlying hu, Instr.slice, hrun true 0 E.w (Nat.le_refl _), (hT.ty _ ti hti).sizeOf]
    · cases h
  · -- an array
    rename_i m e _ _ _ _ _ b j ht
    have hu := (hT.ty t _ ht).und
    simp only [DescOk] at hu
    split at h
    · rename_i cs ti hb hti
      have hbx := hl _ _ hb
      split at h
      · rename_i k n l hit
        split at h
        · rename_i hsz
          simp only [Bool.and_eq_true] at hsz
          have hnm := Nat.eq_of_beq_eq_true hsz.1.1
          have hs1 := Nat.eq_of_beq_eq_true hsz.1.2
          have hpos : 0 < n := Nat.le_of_ble_eq_true hsz.2
          subst hnm
          simp only [ok1, Option.some.injEq] at h
          subst h
          cases vlo <;> cases vhi <;> simp only [OptR] at h1 h2
          obtain ⟨v, ⟨e, hv1⟩, hU, hh⟩ := hx
          injection e with e
          subst e
          obtain ⟨g, hr, rfl⟩ := hh _ hbx
          refine ⟨.slice (some ⟨g, j, none⟩) n n, ?_, ⟨_, ⟨rfl, rfl⟩, hU, fun cs' c h' hit' => ?_⟩, rfl, rfl⟩
          · simp [Instr.sliceAt, run_underlying hu, Instr.sliceBounds, (hT.ty _ ti hti).sizeOf, Instr.sureAddr, pt, Addr.add]
          · rw [hbx] at h'
            injection h' with h'
            injection h' with h'
            subst h'
            rw [hit] at hit'
            injection hit' with hit'
            subst hit'
            exact ⟨g, n, hr, rfl, Nat.le_refl _⟩
        · cases h
      · cases h
    · cases h
  · cases h
end
end Go.Fw
