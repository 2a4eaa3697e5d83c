/- append and copy. -/
import Derived.Test.YtblnigjmcjpopaaFw11
namespace Go.Fw
set_option linter.unusedVariables false
set_option linter.unusedSimpArgs false

section
variable {P : Program} {T : Tab}

theorem toNat_bytes {w : World} {S : Nat → Prop} : ∀ (l : List UInt8), ListRel (CR w S (.int .u8)) (l.map fun b => (b.toNat : Int)) (l.map fun b => Value.int .u8 b.toNat)
  | [] => rfl
  | b :: l => ⟨[.int .u8 b.toNat], _, rfl, rfl, toNat_bytes l⟩

theorem SlR.src {w0 : World} {S S' : Nat → Prop} {u : Ty} {l : List (Den u)} {vx : Value} (h : SlR w0 S' (CR w0 S u) l vx) :
    ∃ news : List Value, (∀ w, (Builtin.lenOf vx).run P w = .ok l.length w) ∧ ListRel (CR w0 S u) l news ∧
      ∀ k w, k ≤ l.length → (∀ a : Addr, w.cell? a = w0.cell? a) → (Builtin.firstCells u.size k vx).run P w = .ok (news.take (k * u.size)).toArray w := by
  obtain ⟨a, cap, rfl, hcap, hh⟩ := h
  by_cases hne : l = []
  · subst hne
    refine ⟨[], fun w => by simp [Builtin.lenOf], rfl, fun k w hk _ => ?_⟩
    have : k = 0 := by simpa using hk
    subst this
    cases a with
    | none => simp [Builtin.firstCells]
    | some ad =>
      have := run_loadCells_list (P := P) w ad [] (fun j v h => by simp at h)
      simpa [Builtin.firstCells] using this
  · obtain ⟨ad, us, rfl, _, hlr, hcell⟩ := hh hne
    refine ⟨us, fun w => by simp [Builtin.lenOf], hlr, fun k w hk hw => ?_⟩
    have hlen := hlr.len (n := u.size) (fun _ _ hx => hx.len)
    have hkl : (us.take (k * u.size)).length = k * u.size := by
      rw [List.length_take, hlen]
      exact Nat.min_eq_left (Nat.mul_le_mul_right _ hk)
    have := run_loadCells_list (P := P) w ad (us.take (k * u.size)) (fun j v h => by
      rw [hw]
      rw [List.getElem?_take] at h
      split at h
      · exact hcell j v h
      · cases h)
    rw [hkl] at this
    simpa [Builtin.firstCells] using this

theorem src_run {E : Env} {look : Nat → Option Blk} (hH : HeapOk E) (hl : ∀ b x, look b = some x → E.H b = some x) {u : Ty} {x : AV} {vx : Value} {l : List (Den u)} (hx : AVR E x vx) (h : srcA look u x = some l) :
    ∃ news : List Value, (∀ w, (Builtin.lenOf vx).run P w = .ok l.length w) ∧ ListRel (CR E.w E.S u) l news ∧
      ∀ k w, k ≤ l.length → (∀ a : Addr, w.cell? a = E.w.cell? a) → (Builtin.firstCells u.size k vx).run P w = .ok (news.take (k * u.size)).toArray w := by
  unfold srcA at h
  split at h
  · rename_i s
    split at h
    · rename_i hq he
      obtain rfl := hq.down
      injection h with h
      subst h
      obtain ⟨e, _⟩ := hx
      injection e with e
      subst e
      refine ⟨s.data.toList.map fun b => Value.int .u8 b.toNat, fun w => by simp [Builtin.lenOf, castL, bytesOf], by simpa [castL, bytesOf] using toNat_bytes s.data.toList, fun k w hk _ => ?_⟩
      have hk' : k ≤ s.size := by simpa [castL, bytesOf] using hk
      have e1 : (s.extract 0 k).data.map (fun b => Value.int .u8 (b.toNat : Int)) = ((s.data.toList.map fun b => Value.int .u8 (b.toNat : Int)).take (k * Ty.size (.int .u8))).toArray := by
        apply Array.ext'
        simp [Ty.size, ByteArray.data_extract, List.map_take]
      simp only [Builtin.firstCells]
      rw [e1]
      rfl
    · cases h
  · rename_i c hns
    exact (slAs_rel hH hl h hx).src
  · cases h

theorem isSrc_ok (hT : TabOk P T) {t : TypeId} (h : isSrc T t = true) : ∃ d, P.underlying t = some d ∧ ∀ k, d ≠ .int k := by
  unfold isSrc at h
  split at h
  · rename_i ht
    have := (hT.ty t _ ht).und
    exact ⟨_, this, fun k e => by cases e⟩
  · rename_i ht
    have := (hT.ty t _ ht).und
    exact ⟨_, this, fun k e => by cases e⟩
  · cases h

theorem nextcap_le {need old : Nat} (h : old < need) : Builtin.nextslicecap need old ≤ 2 * need := by
  unfold Builtin.nextslicecap
  split
  · omega
  · split
    · omega
    · have key : ∀ r c, c < need + (need + 768) / 4 + 1 → Builtin.growBy need r c ≤ need + (need + 768) / 4 := by
        intro r
        induction r with
        | zero => intro c hc; simp [Builtin.growBy]; omega
        | succ r ih =>
          intro c hc
          unfold Builtin.growBy
          split
          · omega
          · exact ih _ (by omega)
      have := key 4 old (by omega)
      omega

/-- an unbacked row: what append gives where there is nothing -/
def nilE (E : Env) (us : List Nat) (nm : Nat) (u : Ty) : Env :=
  { w := E.w, ρ := fun b => if b = nm then none else E.ρ b, S := SU E us, H := fun b => if b = nm then some (.arr u []) else if b ∈ us then none else E.H b, U := fun b => E.U b ∨ b = nm }

theorem Step.nil {E : Env} {r : Res} {nm : Nat} {us : List Nat} {u : Ty} (hH : HeapOk E) (hr1 : r.add = [.arr u []]) (hr2 : r.set = us.map fun u => (u, none)) (hnm : ¬ E.U nm) : Step E r nm (nilE E us nm u) := by
  have hk := killE_ok hH us
  have hext : Ext (killE E us) (nilE E us nm u) := by
    refine ⟨fun g hg => ⟨hg, rfl⟩, fun b hb => .inl hb, fun b x' hb hx => ?_⟩
    have hne : b ≠ nm := fun e => hnm (e ▸ hb)
    refine ⟨x', by simpa [nilE, killE, hne] using hx, by simp [nilE, killE, hne], rfl, fun g cs el _ h => ⟨cs, h, rfl⟩⟩
  have hold : ∀ b x, b ≠ nm → (nilE E us nm u).H b = some x → (killE E us).H b = some x := fun b x hne hx => by simpa [nilE, killE, hne] using hx
  refine ⟨(killE_ext us).trans hext, ⟨fun b x hx => ?_, fun b b' x x' g hx hx' hr hr' => ?_, hk.st⟩, fun b => ?_, fun b => ?_, fun F hF => ?_⟩
  · by_cases hb : b = nm
    · subst hb
      simp only [nilE, if_true, Option.some.injEq] at hx
      subst hx
      exact ⟨.inr rfl, .inl ⟨by simp [nilE], rfl⟩, fun g hg => by simp [nilE] at hg⟩
    · obtain ⟨h1, h2, h3⟩ := hk.blk b x (hold b x hb hx)
      exact ⟨.inl h1, h2.ext hext (by simp [nilE, killE, hb]) (fun _ _ => rfl), fun g hg => h3 g (by simpa [nilE, killE, hb] using hg)⟩
  · by_cases hb : b = nm
    · subst hb; simp [nilE] at hr
    · by_cases hb' : b' = nm
      · subst hb'; simp [nilE] at hr'
      · exact hk.inj b b' x x' g (hold b x hb hx) (hold b' x' hb' hx') (by simpa [nilE, killE, hb] using hr) (by simpa [nilE, killE, hb'] using hr')
  · rw [hr1, hr2]
    simp only [addF, nilE, setF_kill]
  · rw [hr1]
    simp only [nilE, List.length_singleton]
    constructor
    · rintro (h | h)
      · exact .inl h
      · exact .inr (by omega)
    · rintro (h | h)
      · exact .inl h
      · exact .inr (by omega)
  · have h := killE_fr us hF
    refine ⟨h.os, h.tape, h.output, h.size, h.old, fun b x g hx hr => ?_, h.S⟩
    by_cases hb : b = nm
    · subst hb; simp [nilE] at hr
    · exact h.own b x g (hold b x hb hx) (by simpa [nilE, killE, hb] using hr)

theorem nilE_own (E : Env) (us : List Nat) (nm : Nat) (u : Ty) : AVR (nilE E us nm u) (.cell (.own nm)) (.slice none 0 0) :=
  ⟨_, ⟨rfl, rfl⟩, .inr rfl, fun t l _ => .inl ⟨by simp [nilE], rfl⟩⟩

theorem size_zeroCells' (z : Array Value) (n : Nat) : (Builtin.zeroCells z n).size = n * z.size := by simp [Builtin.zeroCells]

theorem append_run {E : Env} {look : Nat → Option Blk} (hT : TabOk P T) (hH : HeapOk E) (hl : ∀ b x, look b = some x → E.H b = some x) {t t' ty : TypeId} {s x : AV} {vs vx : Value} {r : Res} {nm : Nat} (hnm : ¬ E.U nm) (hs : AVR E s vs) (hx : AVR E x vx)
    (h : appendA T look nm t t' s x = some r) (hp : ∀ p, r.pre = some p → p) : ∃ v E', (Builtin.append_ #[t, t'] ty #[vs, vx]).run P E.w = .ok v E'.w ∧ Step E r nm E' ∧ AVR E' r.val v := by
  unfold appendA at h
  cases he : etyOf T t with
  | none => rw [he] at h; cases h
  | some ub =>
    obtain ⟨u, by_⟩ := ub
    rw [he] at h
    simp only at h
    split at h
    · cases h
    · rename_i hc
      rw [Bool.and_eq_true] at hc
      obtain ⟨d, hd, hdk⟩ := isSrc_ok (P := P) hT hc.1
      have hby : 0 < by_ := Nat.le_of_ble_eq_true hc.2
      cases hsrc : srcA look u x with
      | none => rw [hsrc] at h; cases h
      | some l' =>
        rw [hsrc] at h
        simp only at h
        obtain ⟨news, hlen, hlr, hfirst⟩ := src_run (P := P) hH hl hx hsrc
        obtain ⟨e, i, z, hu, hi, hz, hisz, hib, hzs, hcr, hso, hze⟩ := ety_ok hT he
        have hnl := hlr.len (n := u.size) (fun _ _ hx => hx.len)
        have hones := hlr.ones fun _ _ hx => hx.ones
        have hzeros : (match d with | .int _ => true | _ => false) = false := by
          cases d <;> first | rfl | exact absurd rfl (hdk _)
        obtain ⟨W, hW⟩ : ∃ W : List Value → Nat → World, ∀ olds n, W olds n = E.w.drew.alloc (.cells (olds.toArray ++ news.toArray ++ Builtin.zeroCells z.cells n) e) := ⟨_, fun _ _ => rfl⟩
        -- what an append that must grow gives
        have grow : ∀ (base : Option Addr) (sLen sCap : Nat) (olds : List Value), ¬ sLen + l'.length ≤ sCap → sLen ≤ sCap → olds.length = sLen * u.size →
            (Builtin.firstCells u.size sLen (.slice base sLen sCap)).run P E.w.drew = .ok olds.toArray E.w.drew → (sLen + l'.length) * by_ ≤ 140737488355328 →
            ∃ cap, sLen + l'.length ≤ cap ∧ (Builtin.append_ #[t, t'] ty #[.slice base sLen sCap, vx]).run P E.w = .ok (.slice (some ⟨E.w.heap.size, 0, none⟩) (sLen + l'.length) cap) (W olds (cap - (sLen + l'.length))) := by
          intro base sLen sCap olds hroom hle hol hold hb
          refine ⟨grownCap E.w (sLen + l'.length) sCap e, grownCap_ge _ _ _ _, ?_⟩
          have hcap := nextcap_le (need := sLen + l'.length) (old := sCap) (by omega)
          have hfit : ¬ (281474976710656 < Builtin.nextslicecap (sLen + l'.length) sCap * by_) := by
            have := Nat.mul_le_mul_right by_ hcap
            rw [Nat.mul_assoc] at this
            omega
          have hnews := hfirst l'.length E.w.drew (Nat.le_refl _) (fun _ => rfl)
          rw [List.take_of_length_le (by rw [hnl]; exact Nat.le_refl _)] at hnews
          have hb0 : ¬ by_ = 0 := by omega
          rw [hW]
          have hdz : ∀ w, (underlying t').run P w = .ok d w := run_underlying hd
          simp [Builtin.append_, run_underlying hu, hso, hdz, hlen, hroom, typeInfo, hi, hib, hb0, hfit, Question.forced, hold, hnews, hze, newRow, grownCap]
          cases d <;> first | exact absurd rfl (hdk _) | (congr 2; apply Array.ext'; simp [List.append_assoc]; done)
        have newW : ∀ (olds : List Value) (n : Nat), (W olds n).heap = E.w.heap.push (.cells (olds.toArray ++ news.toArray ++ Builtin.zeroCells z.cells n) e) := fun _ _ => by rw [hW]; rfl
        have newW1 : ∀ (olds : List Value) (n : Nat), (W olds n).os = E.w.os := fun _ _ => by rw [hW]; rfl
        have newW2 : ∀ (olds : List Value) (n : Nat), (W olds n).tape = E.w.tape := fun _ _ => by rw [hW]; rfl
        have newW3 : ∀ (olds : List Value) (n : Nat), (W olds n).output = E.w.output := fun _ _ => by rw [hW]; rfl
        split at h
        · -- onto nil
          simp only [Option.some.injEq] at h
          subst h
          have hb := hp _ rfl
          obtain ⟨e', _⟩ := hs
          injection e' with e'
          subst e'
          by_cases h0 : l' = []
          · subst h0
            refine ⟨.slice none 0 0, nilE E [] nm u, ?_, Step.nil (us := []) hH rfl rfl hnm, nilE_own _ _ _ _⟩
            have hf := hfirst 0 E.w (Nat.le_refl _) (fun _ => rfl)
            simp at hf
            have hdz : ∀ w, (underlying t').run P w = .ok d w := run_underlying hd
            simp at hlen
            simp [Builtin.append_, run_underlying hu, hso, hdz]
            cases d <;> first | exact absurd rfl (hdk _) | (simp [hlen, hf, nilE]; done)
          · have hne : l'.length ≠ 0 := fun e => h0 (List.eq_nil_of_length_eq_zero e)
            obtain ⟨cap, hc1, hrun⟩ := grow none 0 0 [] (by omega) (Nat.le_refl _) (by simp) (by simp [Builtin.firstCells]) (by simpa using hb)
            refine ⟨_, newE (killE E []) nm (.arr u l') (W [] (cap - (0 + l'.length))), hrun, Step.newK (us := []) hH rfl rfl hnm (newW [] _) (newW1 _ _) (newW2 _ _) (newW3 _ _) ?_, ?_⟩
            · exact ⟨news, (Builtin.zeroCells z.cells (cap - (0 + l'.length))).toList, by simp, hlr.mono fun _ _ hx => hx.mono fun _ hg => ⟨.inl hg, rfl⟩⟩
            · have := newE_own (killE E []) nm (t := u) (l := l') (cap := cap) (newW [] (cap - (0 + l'.length))) (by omega) (by
                simp [size_zeroCells', hzs, hnl]
                rw [← Nat.add_mul]
                exact Nat.mul_le_mul_right _ (by omega))
              simpa [killE] using this
        · -- onto a row of one's own
          rename_i b
          split at h
          · rename_i u' l hb
            split at h
            · rename_i hq heq
              obtain rfl := hq.down
              simp only [Option.some.injEq] at h
              subst h
              have hbound := hp _ rfl
              have hbx := hl _ _ hb
              obtain ⟨_, hbr, _⟩ := hH.blk _ _ hbx
              obtain ⟨v, ⟨e', hv1⟩, hU, hh⟩ := hs
              injection e' with e'
              subst e'
              simp only [castL]
              rcases hh _ _ hbx with ⟨hr, rfl⟩ | ⟨g, cs, el, cap, hr, hw, rfl, hc', hsz'⟩
              · rcases hbr with ⟨_, rfl⟩ | ⟨g, _, _, _, _, h6, _⟩
                · by_cases h0 : l' = []
                  · subst h0
                    refine ⟨.slice none 0 0, nilE E [b] nm u', ?_, Step.nil (us := [b]) hH rfl rfl hnm, nilE_own _ _ _ _⟩
                    have hf := hfirst 0 E.w (Nat.le_refl _) (fun _ => rfl)
                    simp at hf
                    have hdz : ∀ w, (underlying t').run P w = .ok d w := run_underlying hd
                    simp at hlen
                    simp [Builtin.append_, run_underlying hu, hso, hdz]
                    cases d <;> first | exact absurd rfl (hdk _) | (simp [hlen, hf, nilE]; done)
                  · have hne : l'.length ≠ 0 := fun e => h0 (List.eq_nil_of_length_eq_zero e)
                    obtain ⟨cap, hc1, hrun⟩ := grow none 0 0 [] (by omega) (Nat.le_refl _) (by simp) (by simp [Builtin.firstCells]) (by simpa using hbound)
                    refine ⟨_, newE (killE E [b]) nm (.arr u' l') (W [] (cap - (0 + l'.length))), hrun, Step.newK (us := [b]) hH (by simp) rfl hnm (newW [] _) (newW1 _ _) (newW2 _ _) (newW3 _ _) ?_, ?_⟩
                    · exact ⟨news, (Builtin.zeroCells z.cells (cap - (0 + l'.length))).toList, by simp, hlr.mono fun _ _ hx => hx.mono fun _ hg => ⟨.inl hg, rfl⟩⟩
                    · have := newE_own (killE E [b]) nm (t := u') (l := l') (cap := cap) (newW [] (cap - (0 + l'.length))) (by omega) (by
                        simp [size_zeroCells', hzs, hnl]
                        rw [← Nat.add_mul]
                        exact Nat.mul_le_mul_right _ (by omega))
                      simpa [killE] using this
                · rw [hr] at h6; cases h6
              · -- a row in memory
                have hbr' : ∃ us spare, cs.toList = us ++ spare ∧ ListRel (CR E.w E.S u') l us := by
                  rcases hbr with ⟨h6, _⟩ | ⟨g', cs', el', us, spare, h6, h7, h8, h9⟩
                  · rw [hr] at h6; cases h6
                  · rw [hr] at h6; injection h6 with h6; subst h6
                    rw [hw] at h7; injection h7 with h7; injection h7 with e1 e2
                    subst e1
                    exact ⟨us, spare, h8, h9⟩
                obtain ⟨us, spare, h8, h9⟩ := hbr'
                have hul := h9.len (n := u'.size) (fun _ _ hx => hx.len)
                have hcl : cs.size = us.length + spare.length := by
                  have := congrArg List.length h8
                  simpa using this
                by_cases hroom : l.length + l'.length ≤ cap
                · -- there is room
                  have hfit : l.length * u'.size + news.length ≤ cs.size := by
                    rw [hnl, ← Nat.add_mul]
                    exact Nat.le_trans (Nat.mul_le_mul_right _ hroom) hsz'
                  have hst := run_storeCells_at P g (l.length * u'.size) el news 0 cs E.w hw (by simpa using hfit) hones
                  simp only [Nat.add_zero] at hst
                  have hf := hfirst l'.length E.w (Nat.le_refl _) (fun _ => rfl)
                  rw [List.take_of_length_le (by rw [hnl]; exact Nat.le_refl _)] at hf
                  have hdz : ∀ w, (underlying t').run P w = .ok d w := run_underlying hd
                  have hrun : (Builtin.append_ #[t, t'] ty #[.slice (some ⟨g, 0, none⟩) l.length cap, vx]).run P E.w = .ok (.slice (some ⟨g, 0, none⟩) (l.length + l'.length) cap)
                      (E.w.setRow g (cs.toList.take (l.length * u'.size) ++ news ++ cs.toList.drop (l.length * u'.size + news.length)).toArray) := by
                    simp [Builtin.append_, run_underlying hu, hso, hdz]
                    cases d <;> first | exact absurd rfl (hdk _) | (simp [hlen, hroom, hf, add_at, hst]; done)
                  have hnewl : cs.toList.take (l.length * u'.size) = us := by
                    rw [h8, ← hul]; simp
                  rw [hnewl] at hrun
                  have hsize : (us ++ news ++ cs.toList.drop (l.length * u'.size + news.length)).toArray.size = cs.size := by
                    simp; omega
                  have hwr := writes_setRow hw hsize
                  refine ⟨_, appE E b nm (.arr u' (l ++ l')) _, hrun, Step.app (x := .arr u' l) hH rfl rfl hnm hbx hr hwr ⟨u', l ++ l', us ++ news, cs.toList.drop (l.length * u'.size + news.length), rfl, by simp, h9.append hlr⟩, ?_⟩
                  refine ⟨_, ⟨rfl, rfl⟩, .inr rfl, fun t2 l2 h2 => ?_⟩
                  simp only [appE, if_true, Option.some.injEq, Blk.arr.injEq] at h2
                  obtain ⟨rfl, h2⟩ := h2
                  have h2 := eq_of_heq h2
                  subst h2
                  exact .inr ⟨g, _, el, cap, by simp [appE, hr], hwr.is, by simp, by simpa using hroom, by rw [hsize]; exact hsz'⟩
                · -- it must grow
                  have hold : (Builtin.firstCells u'.size l.length (.slice (some ⟨g, 0, none⟩) l.length cap)).run P E.w.drew = .ok us.toArray E.w.drew := by
                    have := run_loadCells_list (P := P) E.w.drew ⟨g, 0, none⟩ us (fun j v hj => by
                      rw [show E.w.drew.cell? = E.w.cell? from rfl, add_at, Nat.zero_add, cell_at hw, ← Array.getElem?_toList, h8, List.getElem?_append_left (by exact (List.getElem?_eq_some_iff.1 hj).1)]
                      exact hj)
                    rw [hul] at this
                    simpa [Builtin.firstCells] using this
                  obtain ⟨cap', hc1, hrun⟩ := grow (some ⟨g, 0, none⟩) l.length cap us hroom hc' hul hold hbound
                  refine ⟨_, newE (killE E [b]) nm (.arr u' (l ++ l')) (W us (cap' - (l.length + l'.length))), hrun, Step.newK (us := [b]) hH rfl rfl hnm (newW us _) (newW1 _ _) (newW2 _ _) (newW3 _ _) ?_, ?_⟩
                  · exact ⟨us ++ news, (Builtin.zeroCells z.cells (cap' - (l.length + l'.length))).toList, by simp, (h9.append hlr).mono fun _ _ hx => hx.mono fun _ hg => ⟨.inl hg, rfl⟩⟩
                  · have := newE_own (killE E [b]) nm (t := u') (l := l ++ l') (cap := cap') (newW us (cap' - (l.length + l'.length))) (by simp; omega) (by
                      simp [size_zeroCells', hzs, hnl, hul]
                      rw [← Nat.add_mul, ← Nat.add_mul]
                      exact Nat.mul_le_mul_right _ (by omega))
                    simpa [killE] using this
            · cases h
          · cases h
        · cases h
end
end Go.Fw
