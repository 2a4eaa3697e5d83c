/- Weakening: blocks are frozen, dropped and named anew. -/
import Derived.Test.YtblnigjmcjpopaaFw21
namespace Go.Fw
set_option linter.unusedVariables false
set_option linter.unusedSimpArgs false

def memN (b : Nat) : List Nat → Bool
  | [] => false
  | x :: r => match Nat.beq b x with | true => true | false => memN b r
theorem memN_true {b : Nat} : ∀ {l : List Nat}, memN b l = true → b ∈ l
  | [], h => by cases h
  | x :: r, h => by
    unfold memN at h
    split at h
    · rename_i hb; rw [Nat.eq_of_beq_eq_true hb]; simp
    · exact List.mem_cons_of_mem _ (memN_true h)
theorem memN_false {b : Nat} : ∀ {l : List Nat}, memN b l = false → b ∉ l
  | [], h => by simp
  | x :: r, h => by
    unfold memN at h
    split at h
    · cases h
    · rename_i hb
      have := memN_false h
      intro hm
      rcases List.mem_cons.1 hm with rfl | hm
      · simp at hb
      · exact this hm

section
variable (look : Nat → Option Blk) (us : List Nat)

def fzC (c : Cell) : Cell := match c with
  | .own b => match memN b us with
    | true => match sliceOf look (.own b) with | some ⟨t, l⟩ => .ro t l | none => .own b
    | false => .own b
  | .sub b o n => match memN b us with
    | true => match sliceOf look (.sub b o n) with | some ⟨t, l⟩ => .ro t l | none => .sub b o n
    | false => .sub b o n
  | c => c
def fzV : V1 → V1
  | .c x => .c (fzC look us x)
  | .agg cs => .agg (cs.map (fzC look us))
def fzA : AV → AV
  | .dead => .dead
  | .one v => .one (fzV look us v)
  | .tup l => .tup (l.map (fzV look us))
def fzB : Blk → Blk
  | .arr t l => .arr t l
  | .var cs => .var (cs.map (fzC look us))
  | .mp ka kt vt l => .mp ka kt vt l

def inN (acc : List Nat) : List Nat → Bool
  | [] => true
  | x :: r => match memN x acc with | true => inN acc r | false => false
def nodupN : List Nat → Bool
  | [] => true
  | x :: r => match memN x r with | true => false | false => nodupN r
def prefN : Nat → Nat → List Nat → Bool
  | 0, _, _ => true
  | _ + 1, _, [] => false
  | m + 1, k, x :: r => match Nat.beq x k with | true => prefN m (k + 1) r | false => false
def chkAcc (m : Nat) (acc : List Nat) : Bool := match nodupN acc with | true => prefN m 0 acc | false => false
def chkH (acc : List Nat) : List Nat → Bool
  | [] => true
  | n :: r => match memN n us with
    | true => chkH acc r
    | false => match look n with
      | some x => (match inN acc (fzB look us x).names with | true => chkH acc r | false => false)
      | none => chkH acc r
def wkB (acc : List Nat) (n : Nat) : Option Blk := match memN n us with
  | true => none
  | false => match look n with
    | some x => some ((fzB look us x).rn (idx acc))
    | none => none
def wkH (acc : List Nat) : List (Option Blk) := acc.map (wkB look us acc)
end

theorem inN_mem {acc : List Nat} : ∀ {l : List Nat}, inN acc l = true → ∀ x ∈ l, x ∈ acc
  | [], _, x, hx => by cases hx
  | y :: r, h, x, hx => by
    unfold inN at h
    split at h
    · rename_i hy
      rcases List.mem_cons.1 hx with rfl | hx
      · exact memN_true hy
      · exact inN_mem h x hx
    · cases h
theorem nodupN_ok : ∀ {l : List Nat}, nodupN l = true → l.Nodup
  | [], _ => List.nodup_nil
  | x :: r, h => by
    unfold nodupN at h
    split at h
    · cases h
    · rename_i hx
      exact List.nodup_cons.2 ⟨memN_false hx, nodupN_ok h⟩
theorem prefN_ok : ∀ {m k : Nat} {l : List Nat}, prefN m k l = true → ∀ i, i < m → l[i]? = some (k + i)
  | 0, _, _, _, i, hi => by omega
  | _ + 1, _, [], h, _, _ => by cases h
  | m + 1, k, x :: r, h, i, hi => by
    unfold prefN at h
    split at h
    · rename_i hx
      cases i with
      | zero => simp [Nat.eq_of_beq_eq_true hx]
      | succ i => have := prefN_ok h i (by omega); simp [this]; omega
    · cases h
theorem chkAcc_ok {m : Nat} {acc : List Nat} (h : chkAcc m acc = true) : acc.Nodup ∧ ∀ i, i < m → acc[i]? = some i := by
  unfold chkAcc at h
  split at h
  · rename_i h1
    exact ⟨nodupN_ok h1, fun i hi => by have := prefN_ok h i hi; simpa using this⟩
  · cases h
theorem chkH_ok {look : Nat → Option Blk} {us acc : List Nat} : ∀ {l : List Nat}, chkH look us acc l = true → ∀ n ∈ l, n ∉ us → ∀ x, look n = some x → ∀ k ∈ (fzB look us x).names, k ∈ acc
  | [], _, n, hn => by cases hn
  | y :: r, h, n, hn => by
    intro hu x hx k hk
    unfold chkH at h
    rcases List.mem_cons.1 hn with rfl | hn
    · split at h
      · rename_i hm; exact absurd (memN_true hm) hu
      · rw [hx] at h
        simp only at h
        split at h
        · rename_i hi; exact inN_mem hi k hk
        · cases h
    · have : chkH look us acc r = true := by
        split at h
        · exact h
        · split at h
          · split at h
            · exact h
            · cases h
          · exact h
      exact chkH_ok this n hn hu x hx k hk

section
variable {E : Env} {look : Nat → Option Blk} {us : List Nat}

theorem fzC_rel (hH : HeapOk E) (hl : ∀ b, E.H b = look b) {c : Cell} {vs : List Value} (hc : CellR E c vs) : CellR (killE E us) (fzC look us c) vs := by
  have hl' : ∀ b x, look b = some x → E.H b = some x := fun b x h => (hl b).trans h
  have key : ∀ {c : Cell} {t : Ty} {l : List (Den t)} {v : Value}, (∀ n ∈ c.names, n ∈ us) → sliceOf look c = some ⟨t, l⟩ → CellR E c [v] → CellR (killE E us) (.ro t l) [v] := by
    intro c t l v hn h hc
    refine ⟨v, rfl, ?_⟩
    exact (sliceOf_rel hH hl' h hc).mono (fun g hg => ⟨SU.mono hn hg, rfl⟩) fun _ _ hx => hx.su
  unfold fzC
  split
  · rename_i b
    split
    · rename_i hb
      split
      · rename_i t l hs
        have hc' := hc
        obtain ⟨v, ⟨e, _⟩, _⟩ := hc'
        subst e
        exact key (fun n hn => by simp [Cell.names] at hn; subst hn; exact memN_true hb) hs hc
      · exact hc.ext (killE_ext us)
    · exact hc.ext (killE_ext us)
  · rename_i b o n
    split
    · rename_i hb
      split
      · rename_i t l hs
        have hc' := hc
        obtain ⟨v, ⟨e, _⟩, _⟩ := hc'
        subst e
        exact key (fun n hn => by simp [Cell.names] at hn; subst hn; exact memN_true hb) hs hc
      · exact hc.ext (killE_ext us)
    · exact hc.ext (killE_ext us)
  · exact hc.ext (killE_ext us)

theorem fzIR (hH : HeapOk E) (hl : ∀ b, E.H b = look b) : ∀ {cs : List Cell} {vs : List Value}, IR E cs vs → IR (killE E us) (cs.map (fzC look us)) vs
  | [], _, h => h
  | _ :: _, _, ⟨r, s, e, h1, h2⟩ => ⟨r, s, e, fzC_rel hH hl h1, fzIR hH hl h2⟩
theorem fzV_rel (hH : HeapOk E) (hl : ∀ b, E.H b = look b) : {x : V1} → {v : Value} → V1R E x v → V1R (killE E us) (fzV look us x) v
  | .c _, _, h => fzC_rel hH hl h
  | .agg _, _, ⟨vals, e, h⟩ => ⟨vals, e, fzIR hH hl h⟩
theorem fzVs (hH : HeapOk E) (hl : ∀ b, E.H b = look b) : ∀ {xs : List V1} {vs : List Value}, VsR E xs vs → VsR (killE E us) (xs.map (fzV look us)) vs
  | [], _, h => h
  | _ :: _, _, ⟨r, s, e, h1, h2⟩ => ⟨r, s, e, fzV_rel hH hl h1, fzVs hH hl h2⟩
theorem fzA_rel (hH : HeapOk E) (hl : ∀ b, E.H b = look b) : {x : AV} → {v : Value} → AVR E x v → AVR (killE E us) (fzA look us x) v
  | .dead, _, _ => trivial
  | .one _, _, h => fzV_rel hH hl h
  | .tup _, _, ⟨vs, e, h⟩ => ⟨vs, e, fzVs hH hl h⟩
theorem fzC_size (c : Cell) : (fzC look us c).size = c.size := by
  unfold fzC
  split
  · split
    · split <;> rfl
    · rfl
  · split
    · split <;> rfl
    · rfl
  · rfl
theorem fzB_shape (x : Blk) : shape (fzB look us x) = shape x := by
  cases x with
  | arr t l => rfl
  | var cs =>
    simp only [fzB, shape, List.map_map]
    congr 1
    apply List.map_congr_left
    intro c _
    exact fzC_size c
  | mp _ _ _ _ => rfl
theorem fzB_rel (hH : HeapOk E) (hl : ∀ b, E.H b = look b) {b : Nat} {x : Blk} (hx : BlkR E b x) : BlkR (killE E us) b (fzB look us x) := by
  cases x with
  | arr t l =>
    rcases hx with h | ⟨g, cs, el, vs, spare, h1, h2, h3, h4⟩
    · exact .inl h
    · exact .inr ⟨g, cs, el, vs, spare, h1, h2, h3, h4.mono fun _ _ hx => hx.su⟩
  | var is =>
    obtain ⟨g, cs, el, h1, h2, h3⟩ := hx
    exact ⟨g, cs, el, h1, h2, fzIR hH hl h3⟩
  | mp ka kt vt l => exact hx
end

def weakE (E : Env) (look : Nat → Option Blk) (us acc : List Nat) : Env :=
  { w := E.w, ρ := fun i => (acc[i]?).bind E.ρ, S := SU E us, H := fun b => match (wkH look us acc)[b]? with | some x => x | none => none, U := fun i => i < acc.length }

theorem weakE_H {E : Env} {look : Nat → Option Blk} {us acc : List Nat} {b : Nat} {x : Blk} (h : (weakE E look us acc).H b = some x) :
    ∃ n y, acc[b]? = some n ∧ n ∉ us ∧ look n = some y ∧ x = (fzB look us y).rn (idx acc) := by
  have h : (match (wkH look us acc)[b]? with | some x => x | none => none) = some x := h
  unfold wkH at h
  rw [List.getElem?_map] at h
  cases hb : acc[b]? with
  | none => rw [hb] at h; cases h
  | some n =>
    rw [hb] at h
    simp only [Option.map_some] at h
    unfold wkB at h
    split at h
    · cases h
    · rename_i hn
      split at h
      · rename_i y hy
        injection h with h
        exact ⟨n, y, rfl, memN_false hn, hy, h.symm⟩
      · cases h

theorem weak {m : Nat} {E0 E : Env} {look : Nat → Option Blk} {us acc : List Nat} (hm : ∀ b, E0.U b → b < m) (hH : HeapOk E) (hl : ∀ b, E.H b = look b) (hf : Fr E0 E)
    (c1 : chkAcc m acc = true) (c2 : chkH look us acc acc = true) :
    HeapOk (weakE E look us acc) ∧ Fr E0 (weakE E look us acc) ∧ ∀ x v, inN acc (fzA look us x).names = true → AVR E x v → AVR (weakE E look us acc) ((fzA look us x).rn (idx acc)) v := by
  obtain ⟨hn, hpre⟩ := chkAcc_ok c1
  have hk := killE_ok hH us
  have kH : ∀ n y, n ∉ us → look n = some y → (killE E us).H n = some y := fun n y h1 h2 => by
    show (if n ∈ us then none else E.H n) = some y
    rw [if_neg h1, hl, h2]
  have rnat : ∀ b ∈ acc, RnAt (killE E us) (weakE E look us acc) (idx acc) b := by
    intro b hb _
    have h1 := idx_mem hn hb
    refine ⟨(List.getElem?_eq_some_iff.1 h1).1, fun x hx => ?_⟩
    obtain ⟨n, y, h2, h3, h4, rfl⟩ := weakE_H hx
    rw [h1] at h2
    injection h2 with h2
    subst h2
    refine ⟨y, kH _ _ h3 h4, by rw [shape_rn, fzB_shape], ?_⟩
    show (acc[idx acc b]?).bind E.ρ = E.ρ b
    rw [h1]; rfl
  refine ⟨⟨fun b x hx => ?_, fun b b' x x' g hx hx' hr hr' => ?_, hk.st⟩, ⟨⟨hf.fr.os, hf.fr.tape, hf.fr.output, hf.fr.size, hf.fr.old, fun b x g hx hr => ?_, (killE_fr us hf.fr).S⟩, ⟨fun g hg => ((hf.ext.trans (killE_ext us)).S g hg), fun b hb => ?_, fun b x' hb hx => ?_⟩⟩, fun x v hx hv => ?_⟩
  · obtain ⟨n, y, h1, h2, h3, rfl⟩ := weakE_H hx
    obtain ⟨k1, k2, k3⟩ := hk.blk n y (kH _ _ h2 h3)
    obtain ⟨_, k2', _⟩ := hH.blk n y ((hl n).trans h3)
    have hr : (weakE E look us acc).ρ (idx acc n) = (killE E us).ρ n := by
      show (acc[idx acc n]?).bind E.ρ = E.ρ n
      rw [idx_at hn h1, h1]; rfl
    have := BlkR.rn (E := killE E us) (E' := weakE E look us acc) (f := idx acc) (i := n) rfl (.inl fun _ h => h) (fun j hj => rnat j (chkH_ok c2 n (List.mem_of_getElem? h1) h2 y h3 j hj)) hr (fzB_rel hH hl k2')
    rw [idx_at hn h1] at this hr
    exact ⟨(List.getElem?_eq_some_iff.1 h1).1, this, fun g hg => k3 g (hr ▸ hg)⟩
  · obtain ⟨n, y, h1, h2, h3, rfl⟩ := weakE_H hx
    obtain ⟨n', y', h1', h2', h3', rfl⟩ := weakE_H hx'
    have e1 : E.ρ n = some g := by have : (acc[b]?).bind E.ρ = some g := hr; rwa [h1] at this
    have e2 : E.ρ n' = some g := by have : (acc[b']?).bind E.ρ = some g := hr'; rwa [h1'] at this
    have := hH.inj n n' y y' g ((hl n).trans h3) ((hl n').trans h3') e1 e2
    subst this
    rw [← idx_at hn h1, ← idx_at hn h1']
  · obtain ⟨n, y, h1, h2, h3, rfl⟩ := weakE_H hx
    have e1 : E.ρ n = some g := by have : (acc[b]?).bind E.ρ = some g := hr; rwa [h1] at this
    exact hf.fr.own n y g ((hl n).trans h3) e1
  · have := hpre b (hm b hb)
    exact (List.getElem?_eq_some_iff.1 this).1
  · have h0 := hpre b (hm b hb)
    obtain ⟨n, y, h1, h2, h3, rfl⟩ := weakE_H hx
    rw [h0] at h1
    injection h1 with h1
    subst h1
    obtain ⟨x, e1, e2, e3, e4⟩ := (hf.ext.trans (killE_ext us)).H b y hb (kH _ _ h2 h3)
    refine ⟨x, e1, ?_, by rw [shape_rn, fzB_shape, e3], e4⟩
    show (acc[b]?).bind E.ρ = E0.ρ b
    rw [h0]
    exact e2
  · exact AVR.rn (E := killE E us) (E' := weakE E look us acc) rfl (.inl fun _ h => h) (fun i hi => rnat i (inN_mem hx i hi)) (fzA_rel hH hl hv)

def leV (look : Nat → Option Blk) (us acc : List Nat) (x y : AV) : Prop := match y with
  | .dead => True
  | y => inN acc (fzA look us x).names = true ∧ (fzA look us x).rn (idx acc) = y
def leT (look : Nat → Option Blk) (us acc : List Nat) : List AV → List AV → Prop
  | [], [] => True
  | x :: xs, y :: ys => leV look us acc x y ∧ leT look us acc xs ys
  | _, _ => False

theorem leT_at {look : Nat → Option Blk} {us acc : List Nat} : ∀ {xs ys : List AV}, leT look us acc xs ys → xs.length = ys.length ∧ ∀ (i : Nat) y, ys[i]? = some y → ∃ x, xs[i]? = some x ∧ leV look us acc x y
  | [], [], _ => ⟨rfl, fun i y h => by simp at h⟩
  | x :: xs, y :: ys, ⟨h1, h2⟩ => by
    obtain ⟨h3, h4⟩ := leT_at h2
    refine ⟨by simp [h3], fun i z hz => ?_⟩
    cases i with
    | zero => simp at hz; subst hz; exact ⟨x, rfl, h1⟩
    | succ i => exact h4 i z (by simpa using hz)
  | [], _ :: _, h => h.elim
  | _ :: _, [], h => h.elim

theorem leV_rel {E E' : Env} {look : Nat → Option Blk} {us acc : List Nat} {x y : AV} {v : Value} (h : leV look us acc x y) (hh : inN acc (fzA look us x).names = true → AVR E' ((fzA look us x).rn (idx acc)) v) : AVR E' y v := by
  cases y with
  | dead => trivial
  | one _ => obtain ⟨h1, h2⟩ := h; rw [← h2]; exact hh h1
  | tup _ => obtain ⟨h1, h2⟩ := h; rw [← h2]; exact hh h1

theorem Le.mk {m : Nat} {st st' : St} (us acc : List Nat) (c1 : chkAcc m acc = true) (c2 : chkH st.look us acc acc = true) (hh : wkH st.look us acc = st'.heap) (ht : leT st.look us acc st.tmps st'.tmps) : Le m st st' := by
  intro E0 E a hm hs hf
  obtain ⟨h1, h2, h3⟩ := weak hm hs.ok hs.H hf c1 c2
  obtain ⟨h4, h5⟩ := leT_at ht
  refine ⟨weakE E st.look us acc, rfl, ⟨hs.defers, hs.len.trans h4, fun i y hy => ?_, h1, fun b => ?_, fun b hb => ?_⟩, h2⟩
  · obtain ⟨x, hx, hxy⟩ := h5 i y hy
    obtain ⟨v, hv1, hv2⟩ := hs.tmp i x hx
    exact ⟨v, hv1, leV_rel (E := E) hxy fun hi => h3 x v hi hv2⟩
  · show (match (wkH st.look us acc)[b]? with | some x => x | none => none) = st'.look b
    rw [hh]; rfl
  · rw [← hh]
    have hb : b < acc.length := hb
    simpa [wkH] using hb

end Go.Fw
