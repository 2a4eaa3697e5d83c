/- What an argument that reads well is as typed data. -/
import Derived.Test.YtblnigjmcjpopaaFw30
import Derived.ChangeArms
import Derived.ChangeOld
import Derived.SizedLaws
namespace Go.Fw
open Go.ChangeShapes Go.WideShapes
set_option linter.unusedVariables false
set_option linter.unusedSimpArgs false

def Wf : (u : Ty) → Den u → Prop
  | .int k, x => (Lit.int k x).wf = true
  | .ints k n, l => List.length l = n ∧ ∀ x ∈ (l : List Int), (Lit.int k x).wf = true
  | .bool, _ => True
  | .str, s => ByteArray.size s ≤ reachBytes
  | .sl t, l => List.length l * t.by_ ≤ reachBytes ∧ ∀ x ∈ (l : List (Den t)), Wf t x
  | .pair a b, x => Wf a x.1 ∧ Wf b x.2

theorem addr_add (a : Addr) (x y : Nat) : (a.add x).add y = a.add (x + y) := by
  unfold Addr.add
  split <;> split <;> simp_all [Nat.add_assoc]

/-- a measure of what an argument reads as -/
structure BulkLaw {H : Type} (bk : DataW H → Nat) (ba : List (DataW H) → Nat) : Prop where
  cons : ∀ d r, bk d + ba r ≤ ba (d :: r)
  one : ∀ d, 1 ≤ bk d
  sl : ∀ e s, ba e + 1 ≤ bk (.slice e s)
  ag : ∀ p, ba p ≤ bk (.agg p)
  st : ∀ b, b.length + 1 ≤ bk (.lit (.string b))
/-- the measure of typed data -/
def bd : (u : Ty) → Den u → Nat
  | .int _, _ => 1
  | .ints _ n, _ => n
  | .bool, _ => 1
  | .str, s => ByteArray.size s + 1
  | .sl t, l => (List.map (bd t) l).sum + 1
  | .pair a b, x => bd a x.1 + bd b x.2
theorem BulkLaw.len {H : Type} {bk : DataW H → Nat} {ba : List (DataW H) → Nat} (B : BulkLaw bk ba) : ∀ l, l.length ≤ ba l
  | [] => Nat.zero_le _
  | d :: r => by
    have h1 := B.cons d r
    have h2 := B.one d
    have h3 := B.len r
    simp only [List.length_cons]
    omega
def sumTo (B : Nat → Nat) : Nat → Nat
  | 0 => 0
  | n + 1 => sumTo B n + B n
theorem sumTo_succ (B : Nat → Nat) : ∀ n, sumTo B (n + 1) = B 0 + sumTo (fun i => B (i + 1)) n
  | 0 => by simp [sumTo]
  | n + 1 => by rw [sumTo, sumTo_succ B n, sumTo]; omega
theorem BulkLaw.sum {H : Type} {bk : DataW H → Nat} {ba : List (DataW H) → Nat} (B : BulkLaw bk ba) : ∀ l : List (DataW H), sumTo (fun i => bk (l.getD i .nil)) l.length ≤ ba l
  | [] => Nat.zero_le _
  | d :: r => by
    have h1 := B.cons d r
    have h2 := B.sum r
    rw [List.length_cons, sumTo_succ]
    simp only [List.getD_cons_zero, List.getD_cons_succ]
    omega
theorem bulk_size (H : Type) : BulkLaw (H := H) (fun d => SizeOf.sizeOf d) (fun l => SizeOf.sizeOf l) where
  cons := fun d r => by simp
  one := fun d => by cases d <;> simp <;> omega
  sl := fun e s => by simp; omega
  ag := fun p => by simp
  st := fun b => by
    have : ∀ b : List UInt8, b.length ≤ SizeOf.sizeOf b := by
      intro b
      induction b with
      | nil => simp
      | cons x r ih => simp; omega
    have := this b
    simp; omega

theorem rows_listB {α : Type} {R : α → List Value → Prop} {Q : α → Prop} {m : α → Nat} {B : Nat → Nat} {w : World} {a : Addr} {c : Nat} : ∀ (len : Nat), (∀ i, i < len → ∃ d r, R d r ∧ (Q d ∧ m d ≤ B i) ∧ r.length = c ∧ ∀ j, j < c → w.cell? ((a.add (i * c)).add j) = r[j]?) →
    ∃ (l : List α) (us : List Value), l.length = len ∧ ListRel R l us ∧ (∀ x ∈ l, Q x) ∧ us.length = len * c ∧ (∀ k u, us[k]? = some u → w.cell? (a.add k) = some u) ∧ (l.map m).sum ≤ sumTo B len
  | 0, _ => ⟨[], [], rfl, rfl, fun x h => (by cases h), by simp, fun k u h => (by simp at h), Nat.le_refl _⟩
  | len + 1, h => by
    obtain ⟨l, us, h1, h2, h3, h4, h5, h6⟩ := rows_listB len fun i hi => h i (by omega)
    obtain ⟨d, r, g1, ⟨g2, g5⟩, g3, g4⟩ := h len (by omega)
    refine ⟨l ++ [d], us ++ r, by simp [h1], h2.append ⟨r, [], by simp, g1, rfl⟩, fun x hx => ?_, by simp [h4, g3, Nat.add_mul], fun k u hk => ?_, by simp [sumTo]; omega⟩
    · rcases List.mem_append.1 hx with hx | hx
      · exact h3 x hx
      · simp at hx; subst hx; exact g2
    · rw [List.getElem?_append] at hk
      split at hk
      · exact h5 k u hk
      · have hlt := (List.getElem?_eq_some_iff.1 hk).1
        have := g4 (k - us.length) (by omega)
        rw [addr_add] at this
        have e : len * c + (k - us.length) = k := by omega
        rw [e] at this
        rw [this, hk]

section
variable {H : Type} {enc : TypeId × Value → H} {P : Program} {w : World} {sp : Nat → Bool} {held : Bool}

def inHeap (w : World) (g : Nat) : Prop := g < w.heap.size

theorem weights_mem {e : TypeId} {d : DataW H} {n : Nat} (hn : n ∈ DataW.weights P e d) : ∀ {l : List (DataW H)}, d ∈ l → n ∈ DataW.weightsAll P e l
  | [], h => by cases h
  | x :: l, h => by
    simp only [DataW.weightsAll, List.mem_append]
    rcases List.mem_cons.1 h with rfl | h
    · exact .inl hn
    · exact .inr (weights_mem hn h)

variable {bk : DataW H → Nat} {ba : List (DataW H) → Nat}
theorem fits_struct (B : BulkLaw bk ba) {g : Ty → TypeId → Bool} {n : Nat} (ih : ∀ {u : Ty} {t : TypeId} {cs : List Value} {x : DataW H × List MemPlace}, g u t = true → (∀ z ∈ DataW.weights P t x.1, z ≤ reachBytes) → DataW.trod enc P w 0 sp held n t cs = some x → ∃ d : Den u, CR w (inHeap w) u d cs ∧ Wf u d ∧ bd u d ≤ bk x.1) :
    ∀ (fs : List Field) (u : Ty) (off : Nat) (cs : List Value) (xs : List (DataW H × List MemPlace)), fitsF P g u fs off = true → off + u.size = cs.length → xs.length = fs.length → (∀ z ∈ DataW.weightsEach P (fs.map (·.type)) (xs.map (·.1)), z ≤ reachBytes) →
      (∀ (i : Nat) (f : Field), fs[i]? = some f → DataW.trod enc P w 0 sp held n f.type ((cs.drop f.offset).take (P.cellsOf f.type)) = xs[i]?) → ∃ d : Den u, CR w (inHeap w) u d (cs.drop off) ∧ Wf u d ∧ bd u d ≤ ba (xs.map (·.1))
  | [], u, off, cs, xs, h, _, _, _, _ => by simp [fitsF] at h
  | [f], u, off, cs, xs, h, hl, hxl, hz, hx => by
    simp only [fitsF, Bool.and_eq_true] at h
    obtain ⟨⟨h1, h2⟩, h3⟩ := h
    have h2 := Nat.eq_of_beq_eq_true h2
    have h3 := Nat.eq_of_beq_eq_true h3
    have := hx 0 f rfl
    have hlt : 0 < xs.length := by rw [hxl]; simp
    rw [List.getElem?_eq_getElem hlt, h2, h3, List.take_of_length_le (by simp; omega)] at this
    obtain ⟨d0, c0, w0, b0⟩ := ih h1 (fun z hz' => hz z (by
      cases xs with
      | nil => simp at hlt
      | cons y ys => simp only [List.map_cons, DataW.weightsEach, List.mem_append]; exact .inl hz')) this
    refine ⟨d0, c0, w0, ?_⟩
    cases xs with
    | nil => simp at hlt
    | cons y ys =>
      have := B.cons y.1 (ys.map (·.1))
      simp only [List.map_cons]
      simp only [List.getElem_cons_zero] at b0
      omega
  | f :: f' :: fs, u, off, cs, xs, h, hl, hxl, hz, hx => by
    unfold fitsF at h
    split at h
    · rename_i a b
      simp only [Bool.and_eq_true] at h
      obtain ⟨⟨⟨h1, h2⟩, h3⟩, h4⟩ := h
      have h2 := Nat.eq_of_beq_eq_true h2
      have h3 := Nat.eq_of_beq_eq_true h3
      have h0 := hx 0 f rfl
      have hlt : 0 < xs.length := by rw [hxl]; simp
      rw [List.getElem?_eq_getElem hlt, h2, h3] at h0
      have hz1 : ∀ z ∈ DataW.weights P f.type xs[0].1, z ≤ reachBytes := fun z hz' => hz z (by
        cases xs with
        | nil => simp at hlt
        | cons y ys => simp only [List.map_cons, DataW.weightsEach, List.mem_append]; exact .inl hz')
      have hz2 : ∀ z ∈ DataW.weightsEach P ((f' :: fs).map (·.type)) (xs.tail.map (·.1)), z ≤ reachBytes := fun z hz' => hz z (by
        cases xs with
        | nil => simp at hlt
        | cons y ys => rw [show ((f :: f' :: fs).map (·.type)) = f.type :: (f' :: fs).map (·.type) from rfl, show ((y :: ys).map (·.1)) = y.1 :: ys.map (·.1) from rfl, DataW.weightsEach, List.mem_append]; exact .inr hz')
      obtain ⟨d1, c1, w1, b1⟩ := ih h1 hz1 h0
      obtain ⟨d2, c2, w2, b2⟩ := fits_struct B ih (f' :: fs) b (off + a.size) cs xs.tail h4 (by simp only [Ty.size] at hl; omega) (by simp [hxl]) hz2 fun i g hg => by
        have := hx (i + 1) g (by simpa using hg)
        rw [this]
        cases xs with
        | nil => simp at hlt
        | cons y ys => simp
      refine ⟨(d1, d2), ⟨_, _, by rw [← List.drop_drop, List.take_append_drop], c1, c2⟩, ⟨w1, w2⟩, ?_⟩
      cases xs with
      | nil => simp at hlt
      | cons y ys =>
        have := B.cons y.1 (ys.map (·.1))
        simp only [List.map_cons, bd]
        simp only [List.getElem_cons_zero] at b1
        simp only [List.tail_cons] at b2
        omega
    · cases h

theorem trod_array {t e : TypeId} {m fuel : Nat} {cs : List Value} {x : DataW H × List MemPlace} (ht : P.underlying t = some (.array m e)) (h : DataW.trod enc P w 0 sp held fuel t cs = some x) :
    ∃ (xs : List (DataW H × List MemPlace)) (n : Nat), x.1 = .agg (xs.map (·.1)) ∧ cs.length = P.cellsOf t ∧ xs.length = m ∧ ∀ i, i < m → DataW.trod enc P w 0 sp held n e ((cs.drop (i * P.cellsOf e)).take (P.cellsOf e)) = xs[i]? := by
  cases fuel with
  | zero => simp [DataW.trod] at h
  | succ n =>
    unfold DataW.trod at h
    rw [ht] at h
    split at h <;> simp_all
    obtain ⟨hl, xs, hp, hd⟩ := h
    exact ⟨xs, by rw [← hd], by simpa using mapM_some_length hp, n, fun i hi => mapM_some_get hp i i (by simp [hi])⟩

theorem ints_of {k : IntKind} : ∀ (cs : List Value), (∀ i, i < cs.length → ∃ n : Int, cs[i]? = some (.int k n) ∧ (Lit.int k n).wf = true) → ∃ l : List Int, cs = l.map (.int k) ∧ ∀ x ∈ l, (Lit.int k x).wf = true
  | [], _ => ⟨[], rfl, fun x h => (by cases h)⟩
  | v :: cs, h => by
    obtain ⟨n, h1, h2⟩ := h 0 (by simp)
    simp at h1
    subst h1
    obtain ⟨l, rfl, h3⟩ := ints_of cs fun i hi => by simpa using h (i + 1) (by simpa using hi)
    refine ⟨n :: l, rfl, fun x hx => ?_⟩
    rcases List.mem_cons.1 hx with rfl | hx
    · exact h2
    · exact h3 x hx

theorem open_cr (B : BulkLaw bk ba) : ∀ (m : Nat) {u : Ty} {t : TypeId} {fuel : Nat} {cs : List Value} {x : DataW H × List MemPlace}, tyFits P m u t = true → (∀ z ∈ DataW.weights P t x.1, z ≤ reachBytes) → DataW.trod enc P w 0 sp held fuel t cs = some x → ∃ d : Den u, CR w (inHeap w) u d cs ∧ Wf u d ∧ bd u d ≤ bk x.1
  | 0, _, _, _, _, _, h, _, _ => by cases h
  | m + 1, u, t, fuel, cs, x, h, hz, hx => by
    unfold tyFits at h
    split at h
    · rename_i hu
      obtain ⟨b, rfl, _⟩ := DataW.trod_bool hu hx
      exact ⟨b, rfl, trivial, B.one _⟩
    · rename_i k k' hu
      simp only [decide_eq_true_eq] at h
      subst h
      obtain ⟨n, rfl, _, hw⟩ := DataW.trod_int hu hx
      exact ⟨n, rfl, hw, B.one _⟩
    · rename_i hu
      obtain ⟨s, rfl, rfl, hs⟩ := DataW.trod_string hu hx
      exact ⟨s, rfl, by show ByteArray.size s ≤ reachBytes; simpa using hz s.data.toList.length (by simp [DataW.weights]), by have := B.st s.data.toList; rw [Array.length_toList] at this; exact this⟩
    · rename_i e v hu
      simp only [Bool.and_eq_true] at h
      obtain ⟨⟨⟨h1, h2⟩, h3⟩, h4⟩ := h
      have h2 := Nat.eq_of_beq_eq_true h2
      have h3 : 1 ≤ v.size := by simpa using h3
      have h4 : v.by_ ≤ P.bytesOf e := by simpa using h4
      rcases DataW.trod_slice hu hx with ⟨rfl, _⟩ | ⟨a, len, cap, elems, rest, n, rfl, rfl, rfl, hb, hl, hm, hlen, hel, _, _⟩
      · exact ⟨[], ⟨_, rfl, none, 0, rfl, Nat.le_refl _, fun hne => absurd rfl hne⟩, ⟨by simp [Nat.zero_le], fun x hx => (by cases hx)⟩, B.one _⟩
      · have hw0 : ∀ d ∈ elems.map (·.1), ∀ z ∈ DataW.weights P e d, z ≤ reachBytes := fun d hd z hz' => hz z (by
          simp only [DataW.weights, hu, List.mem_cons, List.mem_append]
          exact .inr (.inl (weights_mem hz' hd)))
        have each : ∀ i, i < len → ∃ (d : Den v) (r : List Value), CR w (inHeap w) v d r ∧ (Wf v d ∧ bd v d ≤ bk ((elems.map (·.1)).getD i .nil)) ∧ r.length = v.size ∧ ∀ j, j < v.size → w.cell? ((a.add (i * v.size)).add j) = r[j]? := by
          intro i hi
          have := hel i hi
          rw [List.getElem?_eq_getElem (by omega), h2] at this
          obtain ⟨r, hr, ht⟩ := Option.bind_eq_some_iff.1 this
          obtain ⟨_, hrl, hrc⟩ := World.cells?_some hr
          obtain ⟨d, c1, w1, b1⟩ := open_cr B m h1 (hw0 _ (List.mem_map_of_mem (List.getElem_mem (by omega)))) ht
          exact ⟨d, r, c1, ⟨w1, by rw [List.getD_eq_getElem?_getD, List.getElem?_map, List.getElem?_eq_getElem (by omega)]; exact b1⟩, hrl, hrc⟩
        obtain ⟨l, us, e1, e2, e3, e4, e5, e6⟩ := rows_listB (B := fun i => bk ((elems.map (·.1)).getD i .nil)) len each
        refine ⟨l, ⟨_, rfl, some a, cap, by rw [e1], by omega, fun hne => ⟨a, us, rfl, ?_, e2, e5⟩⟩, ⟨?_, e3⟩, ?_⟩
        rotate_left
        · have := hz ((elems.length + rest.length) * P.bytesOf e) (by simp [DataW.weights, hu])
          have k1 : l.length * v.by_ ≤ (elems.length + rest.length) * P.bytesOf e := Nat.mul_le_mul (by omega) h4
          exact Nat.le_trans k1 this
        · have k1 := B.sum (elems.map (·.1))
          rw [List.length_map, show elems.length = len by omega] at k1
          have k2 := B.sl (elems.map (·.1)) (rest.map (·.1))
          simp only [bd]
          exact Nat.le_trans (Nat.succ_le_succ (Nat.le_trans e6 k1)) k2
        have hlen0 : 0 < len := by
          rw [← e1]
          exact List.length_pos_iff.2 hne
        have := hel 0 hlen0
        rw [List.getElem?_eq_getElem (by omega), h2] at this
        obtain ⟨r, hr, _⟩ := Option.bind_eq_some_iff.1 this
        have hb := World.cells?_block hr (by omega)
        have hbl : (a.add (0 * v.size)).block = a.block := by unfold Addr.add; split <;> rfl
        rw [hbl] at hb
        exact hb
    · rename_i u F hu
      rw [Bool.and_eq_true] at h
      obtain ⟨xs, n, rfl, rfl, hl, hxl, hf⟩ := DataW.trod_struct hu hx
      have hz' : ∀ z ∈ DataW.weightsEach P (F.toList.map (·.type)) (xs.map (·.1)), z ≤ reachBytes := fun z h => hz z (by simp only [DataW.weights, hu]; exact h)
      have h2 := Nat.eq_of_beq_eq_true h.2
      have := fits_struct B (g := tyFits P m) (fun h1 h2 h3 => open_cr B m h1 h2 h3) F.toList _ 0 cs xs h.1 (by omega) (by simpa using hxl) hz' fun i f hi => hf i f (by rw [← Array.getElem?_toList]; exact hi)
      obtain ⟨d, c1, w1, b1⟩ := this
      exact ⟨d, by simpa using c1, w1, Nat.le_trans b1 (B.ag _)⟩
    · rename_i hu
      split at h
      · rename_i k' he
        simp only [Bool.and_eq_true, decide_eq_true_eq] at h
        obtain ⟨⟨⟨rfl, h2⟩, h3⟩, h4⟩ := h
        have h2 := Nat.eq_of_beq_eq_true h2
        have h3 := Nat.eq_of_beq_eq_true h3
        have h4 := Nat.eq_of_beq_eq_true h4
        obtain ⟨xs, n, hx1, hl, hxl, hf⟩ := trod_array hu hx
        obtain ⟨l, rfl, hw⟩ := ints_of cs fun i hi => by
          have := hf i (by omega)
          rw [h3, List.getElem?_eq_getElem (by omega)] at this
          obtain ⟨z, hz, _, hwz⟩ := DataW.trod_int he this
          refine ⟨z, ?_, hwz⟩
          have := congrArg (·[0]?) hz
          simpa [List.getElem?_take] using this
        exact ⟨l, ⟨by simp at hl; omega, rfl⟩, ⟨by simp at hl; omega, hw⟩, by rw [hx1]; have k := B.len (xs.map (·.1)); rw [List.length_map] at k; simp only [bd]; have k2 := B.ag (xs.map (·.1)); omega⟩
      · cases h
    · cases h
end

end Go.Fw
