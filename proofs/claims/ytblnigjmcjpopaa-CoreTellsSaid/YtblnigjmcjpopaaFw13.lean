/- copy. -/
import Derived.Test.YtblnigjmcjpopaaFw12
namespace Go.Fw
set_option linter.unusedVariables false
set_option linter.unusedSimpArgs false

section
variable {P : Program} {T : Tab}

theorem over_eq {α : Type} : ∀ (l src : List α) (i : Nat), over l src i = (src.drop i).take l.length ++ l.drop (src.length - i)
  | [], src, i => by simp [over]
  | d :: l, src, i => by
    rw [over, over_eq l src (i + 1)]
    by_cases h : i < src.length
    · have e : src.length - i = (src.length - (i + 1)) + 1 := by omega
      have e2 : src.getD i d = src[i] := by simp [List.getD, List.getElem?_eq_getElem h]
      rw [e, e2, List.drop_eq_getElem_cons h, List.length_cons, List.take_succ_cons, List.drop_succ_cons, List.cons_append]
    · have e : src.length - i = 0 := by omega
      have e' : src.length - (i + 1) = 0 := by omega
      rw [e, e', List.drop_of_length_le (show src.length ≤ i by omega), List.drop_of_length_le (show src.length ≤ i + 1 by omega)]
      simp [List.getD, List.getElem?_eq_none (show src.length ≤ i by omega)]

theorem over_length {α : Type} (l src : List α) (i : Nat) : (over l src i).length = l.length := by
  induction l generalizing i with
  | nil => rfl
  | cons d l ih => simp [over, ih]

theorem Step.noop {E : Env} {r : Res} {nm : Nat} (hH : HeapOk E) (h1 : r.add = []) (h2 : ∀ b, setF E.H r.set b = E.H b) : Step E r nm E :=
  ⟨.refl E, hH, fun b => by rw [h1]; exact (h2 b).symm, fun b => by rw [h1]; simp; omega, fun _ h => h⟩

theorem over_rel {R : Type} {Q : R → List Value → Prop} {n : Nat} (hn : ∀ x vs, Q x vs → vs.length = n) {l l' : List R} {us news : List Value} (h : ListRel Q l us) (h' : ListRel Q l' news) :
    ListRel Q (over l l' 0) (news.take (min l'.length l.length * n) ++ us.drop (min l'.length l.length * n)) := by
  rw [over_eq]
  have h1 := (h'.take_drop hn l.length).1
  have h2 := (h.take_drop hn l'.length).2
  have e1 := h.len hn
  have e2 := h'.len hn
  simp only [List.drop_zero, Nat.sub_zero]
  rcases Nat.le_total l'.length l.length with hle | hle
  · rw [Nat.min_eq_left hle]
    have : news.take (l'.length * n) = news.take (l.length * n) := by
      rw [List.take_of_length_le (by omega), List.take_of_length_le (by rw [e2]; exact Nat.mul_le_mul_right _ hle)]
    rw [this]
    exact h1.append h2
  · rw [Nat.min_eq_right hle]
    have : us.drop (l.length * n) = us.drop (l'.length * n) := by
      rw [List.drop_of_length_le (by omega), List.drop_of_length_le (by rw [e1]; exact Nat.mul_le_mul_right _ hle)]
    rw [this]
    exact h1.append h2

theorem copy_run {E : Env} {look : Nat → Option Blk} (hT : TabOk P T) (hH : HeapOk E) (hl : ∀ b x, look b = some x → E.H b = some x) {t ty : TypeId} {tys : Array TypeId} {s x : AV} {vs vx : Value} {r : Res} {nm : Nat} (hs : AVR E s vs) (hx : AVR E x vx)
    (ht0 : tys[0]? = some t) (h : copyA T look t s x = some r) (hp : ∀ p, r.pre = some p → p) : ∃ v E', (Builtin.copy_ tys ty #[vs, vx]).run P E.w = .ok v E'.w ∧ Step E r nm E' ∧ AVR E' r.val v := by
  unfold copyA at h
  cases he : etyOf T t with
  | none => rw [he] at h; cases h
  | some ub =>
    obtain ⟨u, by_⟩ := ub
    rw [he] at h
    simp only at h
    cases hsrc : srcA look u x with
    | none => rw [hsrc] at h; cases h
    | some l' =>
      rw [hsrc] at h
      simp only at h
      obtain ⟨news, hlen, hlr, hfirst⟩ := src_run (P := P) hH hl hx hsrc
      obtain ⟨e, i, z, hu, hi, hz, hisz, hib, hzs, hcr, hso, hze⟩ := ety_ok hT he
      have hnl := hlr.len (n := u.size) (fun _ _ hx => hx.len)
      have hones := hlr.ones fun _ _ hx => hx.ones
      split at h
      · simp only [ok1, Option.some.injEq] at h
        subst h
        obtain ⟨e', _⟩ := hs
        injection e' with e'
        subst e'
        refine ⟨.int .i64 0, E, ?_, Step.same hH rfl rfl, ⟨rfl, rfl⟩⟩
        have hf := hfirst 0 E.w (Nat.zero_le _) (fun _ => rfl)
        simp at hf
        simp [Builtin.copy_, ht0, run_underlying hu, hlen, hso, hf, goInt]
      · rename_i b
        split at h
        · rename_i u' l hb
          split at h
          · rename_i hq heq
            obtain rfl := hq.down
            simp only [Option.some.injEq] at h
            subst h
            simp only [castL]
            have hbx := hl _ _ hb
            obtain ⟨_, hbr, _⟩ := hH.blk _ _ hbx
            obtain ⟨v, ⟨e', hv1⟩, hU, hh⟩ := hs
            injection e' with e'
            subst e'
            rcases hh _ _ hbx with ⟨hr, rfl⟩ | ⟨g, cs, el, cap, hr, hw, rfl, hc', hsz'⟩
            · rcases hbr with ⟨_, rfl⟩ | ⟨g, _, _, _, _, h6, _⟩
              · refine ⟨.int .i64 0, E, ?_, Step.noop hH rfl (fun c => ?_), ⟨by simp, rfl⟩⟩
                · have hf := hfirst 0 E.w (Nat.zero_le _) (fun _ => rfl)
                  simp at hf
                  simp [Builtin.copy_, ht0, run_underlying hu, hlen, hso, hf, goInt]
                · simp only [setF, over]
                  by_cases hc : c = b
                  · subst hc; simp [hbx]
                  · simp [hc]
              · rw [hr] at h6; cases h6
            · have hbr' : ∃ us spare, cs.toList = us ++ spare ∧ ListRel (CR E.w E.S u) l us := by
                rcases hbr with ⟨h6, _⟩ | ⟨g', cs', el', us, spare, h6, h7, h8, h9⟩
                · rw [hr] at h6; cases h6
                · rw [hr] at h6; injection h6 with h6; subst h6
                  rw [hw] at h7; injection h7 with h7; injection h7 with e1 e2
                  subst e1
                  exact ⟨us, spare, h8, h9⟩
              obtain ⟨us, spare, h8, h9⟩ := hbr'
              have hul := h9.len (n := u.size) (fun _ _ hx => hx.len)
              have hcl : cs.size = us.length + spare.length := by
                have := congrArg List.length h8
                simpa using this
              obtain ⟨n, hn⟩ : ∃ n, n = min l'.length l.length := ⟨_, rfl⟩
              have hn1 : n ≤ l'.length := by omega
              have hn2 : n * u.size ≤ us.length := by rw [hul]; exact Nat.mul_le_mul_right _ (by omega)
              have hn3 : (news.take (n * u.size)).length = n * u.size := by rw [List.length_take, hnl]; exact Nat.min_eq_left (Nat.mul_le_mul_right _ hn1)
              have hst := run_storeCells_at P g 0 el (news.take (n * u.size)) 0 cs E.w hw (by rw [hn3]; omega) (fun v hv => hones v (List.mem_of_mem_take hv))
              rw [hn3] at hst
              simp only [Nat.add_zero, Nat.zero_add, List.take_zero, List.nil_append] at hst
              have hf := hfirst n E.w hn1 (fun _ => rfl)
              have hdrop : cs.toList.drop (n * u.size) = us.drop (n * u.size) ++ spare := by
                rw [h8, List.drop_append_of_le_length hn2]
              rw [hdrop] at hst
              have hsize : (news.take (n * u.size) ++ (us.drop (n * u.size) ++ spare)).toArray.size = cs.size := by
                simp only [List.size_toArray, List.length_append, hn3, List.length_drop]
                omega
              refine ⟨.int .i64 n, _, ?_, Step.setK (us := []) (x := .arr u l) hH rfl rfl (by simp) hbx hr (by simp [shape, over_length]) (writes_setRow hw hsize) ?_, ⟨by rw [hn], rfl⟩⟩
              · have hmin : Nat.min l'.length l.length = n := hn.symm
                simp [Builtin.copy_, ht0, run_underlying hu, hlen, hso, hmin, hf, hst, goInt, setE]
              · refine ⟨news.take (n * u.size) ++ us.drop (n * u.size), spare, by simp, ?_⟩
                rw [hn]
                exact (over_rel (fun _ _ hx => hx.len) h9 hlr).mono fun _ _ hx => hx.mono fun _ hg => ⟨.inl hg, rfl⟩
          · cases h
        · cases h
      · rename_i b off len
        split at h
        · rename_i u' l hb
          split at h
          · rename_i hq heq
            obtain rfl := hq.down
            simp only [Option.some.injEq] at h
            subst h
            simp only [castL]
            have hbx := hl _ _ hb
            obtain ⟨_, hbr, _⟩ := hH.blk _ _ hbx
            obtain ⟨v, ⟨e', hv1⟩, hU, hh⟩ := hs
            injection e' with e'
            subst e'
            obtain ⟨hole, hh⟩ := hh _ _ hbx
            obtain ⟨n, hn⟩ : ∃ n, n = min l'.length len := ⟨_, rfl⟩
            have hn1 : n ≤ l'.length := by omega
            have hf := hfirst n E.w hn1 (fun _ => rfl)
            have hml : ((l.drop off).take len).length = len := by simp; omega
            have same : n = 0 → l.take off ++ over ((l.drop off).take len) l' 0 ++ l.drop (off + len) = l := by
              intro h0
              have : over ((l.drop off).take len) l' 0 = (l.drop off).take len := by
                rcases Nat.eq_zero_or_pos len with e | e
                · subst e; simp [over]
                · have hl0 : l' = [] := List.eq_nil_of_length_eq_zero (by omega)
                  subst hl0
                  rw [over_eq]; simp
              rw [this, List.append_assoc, ← List.drop_drop, List.take_append_drop, List.take_append_drop]
            by_cases h0 : n = 0
            · refine ⟨.int .i64 0, E, ?_, Step.noop hH rfl (fun c => ?_), ⟨by simp; omega, rfl⟩⟩
              · rw [h0] at hf
                simp at hf
                have hmin : Nat.min l'.length len = 0 := by rw [← h0, hn]
                rcases hh with ⟨hr, rfl, rfl⟩ | ⟨g, ad, cap, hr, rfl, hc', had⟩
                · simp [Builtin.copy_, ht0, run_underlying hu, hlen, hso, hf, goInt]
                · simp [Builtin.copy_, ht0, run_underlying hu, hlen, hso, hmin, hf, goInt, storeCells]
              · simp only [setF]
                by_cases hc : c = b
                · subst hc; simp [hbx, same h0]
                · simp [hc]
            · rcases hh with ⟨hr, rfl, rfl⟩ | ⟨g, ad, cap, hr, rfl, hc', had⟩
              · omega
              obtain rfl := had (by omega)
              rcases hbr with ⟨h6, _⟩ | ⟨g', cs, el, us, spare, h6, hw, h8, h9⟩
              · rw [hr] at h6; cases h6
              rw [hr] at h6; injection h6 with h6; subst h6
              have hul := h9.len (n := u.size) (fun _ _ hx => hx.len)
              have hcl : cs.size = us.length + spare.length := by
                have := congrArg List.length h8
                simpa using this
              have hn2 : (off + len) * u.size ≤ us.length := by rw [hul]; exact Nat.mul_le_mul_right _ hole
              rw [Nat.add_mul] at hn2
              have hn4 : n * u.size ≤ len * u.size := Nat.mul_le_mul_right _ (by omega)
              have hn3 : (news.take (n * u.size)).length = n * u.size := by rw [List.length_take, hnl]; exact Nat.min_eq_left (Nat.mul_le_mul_right _ hn1)
              have hst := run_storeCells_at P g (off * u.size) el (news.take (n * u.size)) 0 cs E.w hw (by rw [hn3]; omega) (fun v hv => hones v (List.mem_of_mem_take hv))
              rw [hn3] at hst
              simp only [Nat.add_zero] at hst
              have e1 : cs.toList.take (off * u.size) = us.take (off * u.size) := by rw [h8, List.take_append_of_le_length (by omega)]
              have e2 : cs.toList.drop (off * u.size + n * u.size) = us.drop (off * u.size + n * u.size) ++ spare := by rw [h8, List.drop_append_of_le_length (by omega)]
              rw [e1, e2] at hst
              have hsize : (us.take (off * u.size) ++ news.take (n * u.size) ++ (us.drop (off * u.size + n * u.size) ++ spare)).toArray.size = cs.size := by
                simp only [List.size_toArray, List.length_append, hn3, List.length_drop, List.length_take]
                omega
              refine ⟨.int .i64 n, _, ?_, Step.setK (us := []) (x := .arr u l) hH rfl rfl (by simp) hbx hr (by simp [shape, over_length]; omega) (writes_setRow hw hsize) ?_, ⟨by rw [hn], rfl⟩⟩
              · have hmin : Nat.min l'.length len = n := hn.symm
                simp [Builtin.copy_, ht0, run_underlying hu, hlen, hso, hmin, hf, hst, goInt, setE]
              · refine ⟨us.take (off * u.size) ++ news.take (n * u.size) ++ us.drop (off * u.size + n * u.size), spare, by simp, ?_⟩
                have a1 := (h9.take_drop (fun _ _ hx => hx.len) off).1
                have a2 := (h9.take_drop (fun _ _ hx => hx.len) off).2
                have a3 := (a2.take_drop (fun _ _ hx => hx.len) len).1
                have a4 := (h9.take_drop (fun _ _ hx => hx.len) (off + len)).2
                have a5 := over_rel (fun _ _ hx => CR.len hx) a3 hlr
                rw [hml, ← hn] at a5
                have a6 := (a1.append a5).append a4
                have e3 : us.take (off * u.size) ++ (news.take (n * u.size) ++ ((us.drop (off * u.size)).take (len * u.size)).drop (n * u.size)) ++ us.drop ((off + len) * u.size) = us.take (off * u.size) ++ news.take (n * u.size) ++ us.drop (off * u.size + n * u.size) := by
                  rw [← List.append_assoc, List.append_assoc (us.take (off * u.size) ++ news.take (n * u.size))]
                  congr 1
                  rw [Nat.add_mul, ← List.drop_drop, ← List.drop_drop]
                  generalize us.drop (off * u.size) = vs
                  rw [List.drop_take, show vs.drop (len * u.size) = (vs.drop (n * u.size)).drop (len * u.size - n * u.size) from by rw [List.drop_drop]; congr 1; omega, List.take_append_drop]
                rw [e3] at a6
                exact a6.mono fun _ _ hx => hx.mono fun _ hg => ⟨.inl hg, rfl⟩
          · cases h
        · cases h
      · cases h
end
end Go.Fw
