/- Addresses of fields and elements; parts of values; values built. -/
import Derived.Test.YtblnigjmcjpopaaFw10
namespace Go.Fw
set_option linter.unusedVariables false
set_option linter.unusedSimpArgs false

section
variable {P : Program} {T : Tab}

theorem indexAddr_run {E : Env} {look : Nat → Option Blk} (hT : TabOk P T) (hH : HeapOk E) (hl : ∀ b x, look b = some x → E.H b = some x) {t : TypeId} {x i : AV} {vx vi : Value} {r : Res}
    (hx : AVR E x vx) (hi : AVR E i vi) (h : indexAddrA T look t x i = some r) (hp : ∀ p, r.pre = some p → p) :
    ∃ v, (Instr.indexAt t vx vi).run P E.w = .ok v E.w ∧ AVR E r.val v ∧ r.add = [] ∧ r.set = [] := by
  unfold indexAddrA at h
  split at h
  · rename_i k n
    obtain ⟨e, _⟩ := hi
    injection e with e
    subst e
    split at h
    · -- slices
      rename_i e _ _ _ _ _ ht
      have hu := (hT.ty t _ ht).und
      simp only [DescOk] at hu
      split at h
      · rename_i u l
        cases hti : T.ty e with
        | none => rw [hti] at h; cases h
        | some ti =>
          rw [hti] at h
          simp only at h
          cases hsz : Nat.beq ti.size u.size with
          | false => rw [hsz] at h; cases h
          | true =>
            rw [hsz] at h
            simp only [okP, Option.some.injEq] at h
            subst h
            have hs := Nat.eq_of_beq_eq_true hsz
            obtain ⟨h0, h1⟩ := hp _ rfl
            obtain ⟨v, e, hsl⟩ := hx
            injection e with e
            subst e
            obtain ⟨ad, cap, rfl, hc, hh⟩ := hsl
            obtain ⟨ad', us, rfl, hS, hlr, hcell⟩ := hh (by intro e; subst e; simp at h1; omega)
            refine ⟨.pointer (some (ad'.add (n.toNat * u.size))), ?_, ⟨by omega, ad', us, by simp, hS, hlr, hcell⟩, rfl, rfl⟩
            simp [Instr.indexAt, asIntOf, run_underlying hu, (hT.ty e ti hti).sizeOf, h0, h1, hs]
      · rename_i b
        split at h
        · rename_i u l ti hb hti
          have hbx := hl _ _ hb
          cases hsz : Nat.beq ti.size u.size with
          | false => rw [hsz] at h; cases h
          | true =>
            rw [hsz] at h
            simp only [okP, Option.some.injEq] at h
            subst h
            have hs := Nat.eq_of_beq_eq_true hsz
            obtain ⟨h0, h1⟩ := hp _ rfl
            obtain ⟨v, ⟨e, hv1⟩, hU, hh⟩ := hx
            injection e with e
            subst e
            rcases hh _ _ hbx with ⟨hr, rfl⟩ | ⟨g, cs, el, cap, hr, hw, rfl, hc, hsz'⟩
            · obtain ⟨_, hbr, _⟩ := hH.blk _ _ hbx
              rcases hbr with ⟨_, rfl⟩ | ⟨g, _, _, _, _, h6, _⟩
              · simp at h1; omega
              · rw [hr] at h6; cases h6
            · refine ⟨pt g (n.toNat * u.size), ?_, ⟨_, ⟨rfl, rfl⟩, hU, fun t' l' h' hi' => ?_⟩, rfl, rfl⟩
              · simp [Instr.indexAt, asIntOf, run_underlying hu, (hT.ty e ti hti).sizeOf, h0, h1, hs, pt, add_at]
              · rw [hbx] at h'
                injection h' with h'
                injection h' with e1 e2
                subst e1
                exact ⟨g, hr, rfl⟩
        · cases h
      · rename_i b off len
        split at h
        · rename_i u l ti hb hti
          have hbx := hl _ _ hb
          cases hsz : Nat.beq ti.size u.size with
          | false => rw [hsz] at h; cases h
          | true =>
            rw [hsz] at h
            simp only [okP, Option.some.injEq] at h
            subst h
            have hs := Nat.eq_of_beq_eq_true hsz
            obtain ⟨h0, h1⟩ := hp _ rfl
            obtain ⟨v, ⟨e, hv1⟩, hU, hh⟩ := hx
            injection e with e
            subst e
            obtain ⟨hle, hh⟩ := hh _ _ hbx
            rcases hh with ⟨hr, rfl, rfl⟩ | ⟨g, ad, cap, hr, rfl, hc, had⟩
            · simp at h1; omega
            · refine ⟨pt g ((off + n.toNat) * u.size), ?_, ⟨_, ⟨rfl, rfl⟩, hU, fun t' l' h' hi' => ?_⟩, rfl, rfl⟩
              · simp [Instr.indexAt, asIntOf, run_underlying hu, (hT.ty e ti hti).sizeOf, h0, h1, hs, pt, had (by omega), add_at, Nat.add_mul]
              · rw [hbx] at h'
                injection h' with h'
                injection h' with e1 e2
                subst e1
                exact ⟨g, hr, rfl⟩
        · cases h
      · rename_i b j m
        split at h
        · rename_i cs ti hb hti
          have hbx := hl _ _ hb
          cases hsz : Nat.beq ti.size 1 with
          | false => rw [hsz] at h; cases h
          | true =>
            rw [hsz] at h
            simp only [okP, Option.some.injEq] at h
            subst h
            have hs := Nat.eq_of_beq_eq_true hsz
            obtain ⟨h0, h1⟩ := hp _ rfl
            obtain ⟨v, ⟨e, hv1⟩, hU, hh⟩ := hx
            injection e with e
            subst e
            obtain ⟨g, cap, hr, rfl, hc⟩ := hh _ hbx
            refine ⟨pt g (j + n.toNat), ?_, ⟨_, ⟨rfl, rfl⟩, hU, fun cs' h' => ?_⟩, rfl, rfl⟩
            · simp [Instr.indexAt, asIntOf, run_underlying hu, (hT.ty e ti hti).sizeOf, h0, h1, hs, pt, add_at]
            · exact ⟨g, hr, rfl⟩
        · cases h
      · cases h
    · -- arrays
      rename_i m e _ _ _ _ _ ht
      have hu := (hT.ty t _ ht).und
      simp only [DescOk] at hu
      split at h
      · rename_i b j ti hti
        split at h
        · rename_i cs hb
          have hbx := hl _ _ hb
          cases hsz : Nat.beq ti.size 1 with
          | false => rw [hsz] at h; cases h
          | true =>
            rw [hsz] at h
            simp only [okP, Option.some.injEq] at h
            subst h
            have hs := Nat.eq_of_beq_eq_true hsz
            obtain ⟨h0, h1⟩ := hp _ rfl
            obtain ⟨v, ⟨e, hv1⟩, hU, hh⟩ := hx
            injection e with e
            subst e
            obtain ⟨g, hr, rfl⟩ := hh _ hbx
            refine ⟨pt g (j + n.toNat), ?_, ⟨_, ⟨rfl, rfl⟩, hU, fun cs' h' => ⟨g, hr, rfl⟩⟩, rfl, rfl⟩
            simp [Instr.indexAt, asIntOf, run_underlying hu, Instr.sureAddr, (hT.ty _ ti hti).sizeOf, h0, h1, hs, pt, add_at]
        · cases h
      · cases h
    · cases h
  · cases h

theorem fieldAddr_run {E : Env} {look : Nat → Option Blk} (hT : TabOk P T) (hl : ∀ b x, look b = some x → E.H b = some x) {s : TypeId} {x : AV} {vx : Value} {f : Nat} {r : Res}
    (hx : AVR E x vx) (h : fieldAddrA T look s x f = some r) (hp : ∀ p, r.pre = some p → p) :
    ∃ v, (Instr.fieldAt s vx f).run P E.w = .ok v E.w ∧ AVR E r.val v ∧ r.add = [] ∧ r.set = [] := by
  unfold fieldAddrA at h
  split at h
  · rename_i fs _ _ _ _ _ ht
    have hu := (hT.ty s _ ht).und
    simp only [DescOk] at hu
    obtain ⟨F, hF, hfs, _⟩ := hu
    split at h
    · rename_i u o hfo
      obtain ⟨fd, h1, h2, h3⟩ := hfs _ _ _ hfo
      cases hti : T.ty u with
      | none => rw [hti] at h; cases h
      | some ti =>
        rw [hti] at h
        simp only at h
        cases hpz : Nat.blt 0 ti.size with
        | false => rw [hpz] at h; cases h
        | true =>
          rw [hpz] at h
          simp only at h
          have hpos : 0 < ti.size := Nat.le_of_ble_eq_true hpz
          have hso : ∀ w, (sizeOf fd.type).run P w = .ok ti.size w := by rw [h2]; exact (hT.ty u ti hti).sizeOf
          have hne : ¬ ti.size = 0 := by omega
          have run : ∀ ad : Addr, (Instr.fieldAt s (.pointer (some ad)) f).run P E.w = .ok (.pointer (some (ad.add o))) E.w := by
            intro ad
            simp [Instr.fieldAt, run_underlying hF, h1, Instr.sureAddr, fieldPlace, hso, hne, h3]
          split at h
          · split at h
            · rename_i b j _ cs hb
              simp only [ok1, Option.some.injEq] at h
              subst h
              have hbx := hl _ _ hb
              obtain ⟨v, ⟨e, hv1⟩, hU, hh⟩ := hx
              injection e with e
              subst e
              obtain ⟨g, hr, rfl⟩ := hh _ hbx
              refine ⟨pt g (j + o), by rw [show pt g (j + o) = .pointer (some ((⟨g, j, none⟩ : Addr).add o)) from by rw [add_at]; rfl]; exact run _, ⟨_, ⟨rfl, rfl⟩, hU, fun cs' h' => ⟨g, hr, rfl⟩⟩, rfl, rfl⟩
            · cases h
          · split at h
            · rename_i b i j _ t' l hb
              simp only [okP, Option.some.injEq] at h
              subst h
              have hi := hp _ rfl
              have hbx := hl _ _ hb
              obtain ⟨v, ⟨e, hv1⟩, hU, hh⟩ := hx
              injection e with e
              subst e
              obtain ⟨g, hr, rfl⟩ := hh _ _ hbx hi
              refine ⟨pt g (i * t'.size + j + o), by rw [show pt g (i * t'.size + j + o) = .pointer (some ((⟨g, i * t'.size + j, none⟩ : Addr).add o)) from by rw [add_at]; rfl]; exact run _, ⟨_, ⟨rfl, rfl⟩, hU, fun t2 l2 h' hi' => ?_⟩, rfl, rfl⟩
              rw [hbx] at h'
              injection h' with h'
              injection h' with e1 e2
              subst e1
              exact ⟨g, hr, by rw [Nat.add_assoc]⟩
            · cases h
          · rename_i t' l i j
            simp only [ok1, Option.some.injEq] at h
            subst h
            obtain ⟨hi, ad, us, e, hS, hlr, hcell⟩ := hx
            injection e with e
            subst e
            refine ⟨_, run _, ⟨hi, ad, us, ?_, hS, hlr, hcell⟩, rfl, rfl⟩
            rw [addadd, Nat.add_assoc]
          · cases h
    · cases h
  · cases h

/-- a part of a value -/
theorem part_run {E : Env} (hT : TabOk P T) {u : TypeId} {ti : TI} (hti : T.ty u = some ti) {cs : List Cell} {vals : Array Value} (hr : IR E cs vals.toList) {o : Nat} :
    (∀ r, ti.isAgg = true → partItems cs o ti.size = some r → ∃ v, (part u vals o).run P E.w = .ok v E.w ∧ AVR E (.agg r) v) ∧
    (∀ c, ti.isAgg = false → itemAt cs o = some c → c.size = 1 → ∃ v, (part u vals o).run P E.w = .ok v E.w ∧ AVR E (.cell c) v) := by
  have hok := hT.ty u ti hti
  constructor
  · intro r hag h
    obtain ⟨a, m, b, e, ha, hm, hmr⟩ := partItems_rel hr h
    refine ⟨.agg (vals.extract o (o + ti.size)), by simp [part, hok.agg, hag, hok.sizeOf], _, rfl, ?_⟩
    have : (vals.extract o (o + ti.size)).toList = m := by
      rw [Array.toList_extract, e]
      simp [List.extract_eq_take_drop, ← ha, ← hm, List.drop_append]
    rw [this]
    exact hmr
  · intro c hag h hs
    obtain ⟨a, m, b, e, ha, hmr⟩ := itemAt_rel hr h
    have hml := hmr.len
    rw [hs] at hml
    match m, hml with
    | [v], _ =>
      have : vals[o]? = some v := by
        rw [← Array.getElem?_toList, e, List.append_assoc, List.getElem?_append_right (by omega), ha]; simp
      exact ⟨v, by simp [part, hok.agg, hag, this], hmr⟩

theorem run_size {c : Cell} (h : ∀ k n l, c ≠ .run k n l) : c.size = 1 := by
  cases c <;> first | rfl | exact absurd rfl (h _ _ _)

theorem field_run {E : Env} (hT : TabOk P T) {t : TypeId} {x : AV} {vx : Value} {f : Nat} {r : Res} (hx : AVR E x vx) (h : fieldA T t x f = some r) :
    ∃ v, (Instr.field t vx f).run P E.w = .ok v E.w ∧ AVR E r.val v ∧ r.add = [] ∧ r.set = [] ∧ r.pre = none := by
  unfold fieldA at h
  split at h
  · rename_i fs _ _ _ _ _ ht
    have hu := (hT.ty t _ ht).und
    simp only [DescOk] at hu
    obtain ⟨F, hF, hfs, _⟩ := hu
    split at h
    · rename_i u o hfo
      obtain ⟨fd, h1, h2, h3⟩ := hfs _ _ _ hfo
      split at h
      · rename_i ti cs hti
        obtain ⟨vals, rfl, hr⟩ := hx
        have hp := part_run (P := P) hT hti hr (o := o)
        have run : ∀ v, (part u vals o).run P E.w = .ok v E.w → (Instr.field t (.agg vals) f).run P E.w = .ok v E.w := by
          intro v hv
          simp [Instr.field, run_underlying hF, h1, asAgg, h2, h3, hv]
        cases hag : ti.isAgg with
        | true =>
          rw [hag] at h
          simp only at h
          cases hq : partItems cs o ti.size with
          | none => rw [hq] at h; cases h
          | some r' =>
            rw [hq] at h
            simp only [ok1, Option.some.injEq] at h
            subst h
            obtain ⟨v, hv, hvr⟩ := hp.1 r' hag hq
            exact ⟨v, run v hv, hvr, rfl, rfl, rfl⟩
        | false =>
          rw [hag] at h
          simp only at h
          split at h
          · cases h
          · rename_i c hq hnr
            simp only [ok1, Option.some.injEq] at h
            subst h
            obtain ⟨v, hv, hvr⟩ := hp.2 c hag hnr (run_size fun k n l e => hq k n l (by rw [← e]))
            exact ⟨v, run v hv, hvr, rfl, rfl, rfl⟩
          · cases h
      · cases h
    · cases h
  · cases h

theorem index_run {E : Env} (hT : TabOk P T) {t : TypeId} {x i : AV} {vx vi : Value} {r : Res} (hx : AVR E x vx) (hi : AVR E i vi) (h : indexA T t x i = some r) (hp : ∀ p, r.pre = some p → p) :
    ∃ v, (Instr.index t vx vi).run P E.w = .ok v E.w ∧ AVR E r.val v ∧ r.add = [] ∧ r.set = [] := by
  unfold indexA at h
  split at h
  · rename_i k n
    obtain ⟨e, _⟩ := hi
    injection e with e
    subst e
    split at h
    · rename_i m e _ _ _ _ _ k' m' l ht
      have hu := (hT.ty t _ ht).und
      simp only [DescOk] at hu
      cases hti : T.ty e with
      | none => rw [hti] at h; cases h
      | some ti =>
        rw [hti] at h
        simp only at h
        split at h
        · rename_i hc
          simp only [Bool.and_eq_true] at hc
          have hs := Nat.eq_of_beq_eq_true hc.1.1
          have hm := Nat.eq_of_beq_eq_true hc.1.2
          have hag : ti.isAgg = false := by simpa using hc.2
          subst hm
          simp only [okP, Option.some.injEq] at h
          subst h
          obtain ⟨h0, h1⟩ := hp _ rfl
          obtain ⟨vals, rfl, r', rest, e, ⟨hln, rfl⟩, hrest⟩ := hx
          simp only [IR] at hrest
          subst hrest
          have hget : vals[n.toNat]? = some (.int k' (l.getD n.toNat 0)) := by
            rw [← Array.getElem?_toList, e]
            simp [List.getD, List.getElem?_eq_getElem (show n.toNat < l.length by omega)]
          have hok := hT.ty _ ti hti
          refine ⟨_, ?_, ⟨rfl, rfl⟩, rfl, rfl⟩
          simp [Instr.index, asIntOf, run_underlying hu, h0, h1, hok.sizeOf, hs, part, hok.agg, hag, hget]
        · cases h
    · rename_i s ht
      have hu := (hT.ty t _ ht).und
      simp only [DescOk] at hu
      simp only [okP, Option.some.injEq] at h
      subst h
      obtain ⟨h0, h1⟩ := hp _ rfl
      obtain ⟨e, _⟩ := hx
      injection e with e
      subst e
      refine ⟨_, ?_, ⟨rfl, rfl⟩, rfl, rfl⟩
      have hlt : n.toNat < s.size := by omega
      have : byteAt s n.toNat = (s[n.toNat].toNat : Int) := by
        unfold byteAt
        have h5 : n.toNat < s.data.toList.length := by simpa using hlt
        rw [List.getD, List.getElem?_eq_getElem h5]
        simp only [Option.getD_some, Array.getElem_toList]
        rfl
      rw [this]
      simp [Instr.index, asIntOf, run_underlying hu, h0, hlt]
    · cases h
  · cases h

end
end Go.Fw
