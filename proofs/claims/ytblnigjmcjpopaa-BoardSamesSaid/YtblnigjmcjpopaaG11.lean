/- Part 11 of the proof: Fw31 VideoLaw TurnLaw Turn Turn2 Shade Video Video2. No statement is handed in here; conditions: none. -/
import Derived.Test.YtblnigjmcjpopaaG10
import Derived.Test.YtblnigjmcjpopaaG6
import Derived.ChangeArms
import Derived.ChangeOld
import Derived.SizedLaws
import Derived.Test.YtblnigjmcjpopaaG7
/- What an argument that reads well is as typed data. -/
namespace Go.Fw
open Go.ChangeShapes Go.WideShapes
set_option linter.unusedVariables false
set_option linter.unusedSimpArgs false

def Wf : (u : Ty) → Den u → Prop
  | .int k, x => (Lit.int k x).wf = true
  | .ints k n, l => List.length l = n ∧ ∀ x ∈ (l : List Int), (Lit.int k x).wf = true
  | .bool, _ => True
  | .str, s => ByteArray.size s ≤ reachBytes
  | .sl t, l => List.length l * t.by_ ≤ reachBytes ∧ ∀ x ∈ (l : List (Den t)), Wf t x
  | .pair a b, x => Wf a x.1 ∧ Wf b x.2

theorem addr_add (a : Addr) (x y : Nat) : (a.add x).add y = a.add (x + y) := by
  unfold Addr.add
  split <;> split <;> simp_all [Nat.add_assoc]

/-- a measure of what an argument reads as -/
structure BulkLaw {H : Type} (bk : DataW H → Nat) (ba : List (DataW H) → Nat) : Prop where
  cons : ∀ d r, bk d + ba r ≤ ba (d :: r)
  one : ∀ d, 1 ≤ bk d
  sl : ∀ e s, ba e + 1 ≤ bk (.slice e s)
  ag : ∀ p, ba p ≤ bk (.agg p)
  st : ∀ b, b.length + 1 ≤ bk (.lit (.string b))
/-- the measure of typed data -/
def bd : (u : Ty) → Den u → Nat
  | .int _, _ => 1
  | .ints _ n, _ => n
  | .bool, _ => 1
  | .str, s => ByteArray.size s + 1
  | .sl t, l => (List.map (bd t) l).sum + 1
  | .pair a b, x => bd a x.1 + bd b x.2
theorem BulkLaw.len {H : Type} {bk : DataW H → Nat} {ba : List (DataW H) → Nat} (B : BulkLaw bk ba) : ∀ l, l.length ≤ ba l
  | [] => Nat.zero_le _
  | d :: r => by
    have h1 := B.cons d r
    have h2 := B.one d
    have h3 := B.len r
    simp only [List.length_cons]
    omega
def sumTo (B : Nat → Nat) : Nat → Nat
  | 0 => 0
  | n + 1 => sumTo B n + B n
theorem sumTo_succ (B : Nat → Nat) : ∀ n, sumTo B (n + 1) = B 0 + sumTo (fun i => B (i + 1)) n
  | 0 => by simp [sumTo]
  | n + 1 => by rw [sumTo, sumTo_succ B n, sumTo]; omega
theorem BulkLaw.sum {H : Type} {bk : DataW H → Nat} {ba : List (DataW H) → Nat} (B : BulkLaw bk ba) : ∀ l : List (DataW H), sumTo (fun i => bk (l.getD i .nil)) l.length ≤ ba l
  | [] => Nat.zero_le _
  | d :: r => by
    have h1 := B.cons d r
    have h2 := B.sum r
    rw [List.length_cons, sumTo_succ]
    simp only [List.getD_cons_zero, List.getD_cons_succ]
    omega
theorem bulk_size (H : Type) : BulkLaw (H := H) (fun d => SizeOf.sizeOf d) (fun l => SizeOf.sizeOf l) where
  cons := fun d r => by simp
  one := fun d => by cases d <;> simp <;> omega
  sl := fun e s => by simp; omega
  ag := fun p => by simp
  st := fun b => by
    have : ∀ b : List UInt8, b.length ≤ SizeOf.sizeOf b := by
      intro b
      induction b with
      | nil => simp
      | cons x r ih => simp; omega
    have := this b
    simp; omega

theorem rows_listB {α : Type} {R : α → List Value → Prop} {Q : α → Prop} {m : α → Nat} {B : Nat → Nat} {w : World} {a : Addr} {c : Nat} : ∀ (len : Nat), (∀ i, i < len → ∃ d r, R d r ∧ (Q d ∧ m d ≤ B i) ∧ r.length = c ∧ ∀ j, j < c → w.cell? ((a.add (i * c)).add j) = r[j]?) →
    ∃ (l : List α) (us : List Value), l.length = len ∧ ListRel R l us ∧ (∀ x ∈ l, Q x) ∧ us.length = len * c ∧ (∀ k u, us[k]? = some u → w.cell? (a.add k) = some u) ∧ (l.map m).sum ≤ sumTo B len
  | 0, _ => ⟨[], [], rfl, rfl, fun x h => (by cases h), by simp, fun k u h => (by simp at h), Nat.le_refl _⟩
  | len + 1, h => by
    obtain ⟨l, us, h1, h2, h3, h4, h5, h6⟩ := rows_listB len fun i hi => h i (by omega)
    obtain ⟨d, r, g1, ⟨g2, g5⟩, g3, g4⟩ := h len (by omega)
    refine ⟨l ++ [d], us ++ r, by simp [h1], h2.append ⟨r, [], by simp, g1, rfl⟩, fun x hx => ?_, by simp [h4, g3, Nat.add_mul], fun k u hk => ?_, by simp [sumTo]; omega⟩
    · rcases List.mem_append.1 hx with hx | hx
      · exact h3 x hx
      · simp at hx; subst hx; exact g2
    · rw [List.getElem?_append] at hk
      split at hk
      · exact h5 k u hk
      · have hlt := (List.getElem?_eq_some_iff.1 hk).1
        have := g4 (k - us.length) (by omega)
        rw [addr_add] at this
        have e : len * c + (k - us.length) = k := by omega
        rw [e] at this
        rw [this, hk]

section
variable {H : Type} {enc : TypeId × Value → H} {P : Program} {w : World} {sp : Nat → Bool} {held : Bool}

def inHeap (w : World) (g : Nat) : Prop := g < w.heap.size

theorem weights_mem {e : TypeId} {d : DataW H} {n : Nat} (hn : n ∈ DataW.weights P e d) : ∀ {l : List (DataW H)}, d ∈ l → n ∈ DataW.weightsAll P e l
  | [], h => by cases h
  | x :: l, h => by
    simp only [DataW.weightsAll, List.mem_append]
    rcases List.mem_cons.1 h with rfl | h
    · exact .inl hn
    · exact .inr (weights_mem hn h)

variable {bk : DataW H → Nat} {ba : List (DataW H) → Nat}
theorem fits_struct (B : BulkLaw bk ba) {g : Ty → TypeId → Bool} {n : Nat} (ih : ∀ {u : Ty} {t : TypeId} {cs : List Value} {x : DataW H × List MemPlace}, g u t = true → (∀ z ∈ DataW.weights P t x.1, z ≤ reachBytes) → DataW.trod enc P w 0 sp held n t cs = some x → ∃ d : Den u, CR w (inHeap w) u d cs ∧ Wf u d ∧ bd u d ≤ bk x.1) :
    ∀ (fs : List Field) (u : Ty) (off : Nat) (cs : List Value) (xs : List (DataW H × List MemPlace)), fitsF P g u fs off = true → off + u.size = cs.length → xs.length = fs.length → (∀ z ∈ DataW.weightsEach P (fs.map (·.type)) (xs.map (·.1)), z ≤ reachBytes) →
      (∀ (i : Nat) (f : Field), fs[i]? = some f → DataW.trod enc P w 0 sp held n f.type ((cs.drop f.offset).take (P.cellsOf f.type)) = xs[i]?) → ∃ d : Den u, CR w (inHeap w) u d (cs.drop off) ∧ Wf u d ∧ bd u d ≤ ba (xs.map (·.1))
  | [], u, off, cs, xs, h, _, _, _, _ => by simp [fitsF] at h
  | [f], u, off, cs, xs, h, hl, hxl, hz, hx => by
    simp only [fitsF, Bool.and_eq_true] at h
    obtain ⟨⟨h1, h2⟩, h3⟩ := h
    have h2 := Nat.eq_of_beq_eq_true h2
    have h3 := Nat.eq_of_beq_eq_true h3
    have := hx 0 f rfl
    have hlt : 0 < xs.length := by rw [hxl]; simp
    rw [List.getElem?_eq_getElem hlt, h2, h3, List.take_of_length_le (by simp; omega)] at this
    obtain ⟨d0, c0, w0, b0⟩ := ih h1 (fun z hz' => hz z (by
      cases xs with
      | nil => simp at hlt
      | cons y ys => simp only [List.map_cons, DataW.weightsEach, List.mem_append]; exact .inl hz')) this
    refine ⟨d0, c0, w0, ?_⟩
    cases xs with
    | nil => simp at hlt
    | cons y ys =>
      have := B.cons y.1 (ys.map (·.1))
      simp only [List.map_cons]
      simp only [List.getElem_cons_zero] at b0
      omega
  | f :: f' :: fs, u, off, cs, xs, h, hl, hxl, hz, hx => by
    unfold fitsF at h
    split at h
    · rename_i a b
      simp only [Bool.and_eq_true] at h
      obtain ⟨⟨⟨h1, h2⟩, h3⟩, h4⟩ := h
      have h2 := Nat.eq_of_beq_eq_true h2
      have h3 := Nat.eq_of_beq_eq_true h3
      have h0 := hx 0 f rfl
      have hlt : 0 < xs.length := by rw [hxl]; simp
      rw [List.getElem?_eq_getElem hlt, h2, h3] at h0
      have hz1 : ∀ z ∈ DataW.weights P f.type xs[0].1, z ≤ reachBytes := fun z hz' => hz z (by
        cases xs with
        | nil => simp at hlt
        | cons y ys => simp only [List.map_cons, DataW.weightsEach, List.mem_append]; exact .inl hz')
      have hz2 : ∀ z ∈ DataW.weightsEach P ((f' :: fs).map (·.type)) (xs.tail.map (·.1)), z ≤ reachBytes := fun z hz' => hz z (by
        cases xs with
        | nil => simp at hlt
        | cons y ys => rw [show ((f :: f' :: fs).map (·.type)) = f.type :: (f' :: fs).map (·.type) from rfl, show ((y :: ys).map (·.1)) = y.1 :: ys.map (·.1) from rfl, DataW.weightsEach, List.mem_append]; exact .inr hz')
      obtain ⟨d1, c1, w1, b1⟩ := ih h1 hz1 h0
      obtain ⟨d2, c2, w2, b2⟩ := fits_struct B ih (f' :: fs) b (off + a.size) cs xs.tail h4 (by simp only [Ty.size] at hl; omega) (by simp [hxl]) hz2 fun i g hg => by
        have := hx (i + 1) g (by simpa using hg)
        rw [this]
        cases xs with
        | nil => simp at hlt
        | cons y ys => simp
      refine ⟨(d1, d2), ⟨_, _, by rw [← List.drop_drop, List.take_append_drop], c1, c2⟩, ⟨w1, w2⟩, ?_⟩
      cases xs with
      | nil => simp at hlt
      | cons y ys =>
        have := B.cons y.1 (ys.map (·.1))
        simp only [List.map_cons, bd]
        simp only [List.getElem_cons_zero] at b1
        simp only [List.tail_cons] at b2
        omega
    · cases h

theorem trod_array {t e : TypeId} {m fuel : Nat} {cs : List Value} {x : DataW H × List MemPlace} (ht : P.underlying t = some (.array m e)) (h : DataW.trod enc P w 0 sp held fuel t cs = some x) :
    ∃ (xs : List (DataW H × List MemPlace)) (n : Nat), x.1 = .agg (xs.map (·.1)) ∧ cs.length = P.cellsOf t ∧ xs.length = m ∧ ∀ i, i < m → DataW.trod enc P w 0 sp held n e ((cs.drop (i * P.cellsOf e)).take (P.cellsOf e)) = xs[i]? := by
  cases fuel with
  | zero => simp [DataW.trod] at h
  | succ n =>
    unfold DataW.trod at h
    rw [ht] at h
    split at h <;> simp_all
    obtain ⟨hl, xs, hp, hd⟩ := h
    exact ⟨xs, by rw [← hd], by simpa using mapM_some_length hp, n, fun i hi => mapM_some_get hp i i (by simp [hi])⟩

theorem ints_of {k : IntKind} : ∀ (cs : List Value), (∀ i, i < cs.length → ∃ n : Int, cs[i]? = some (.int k n) ∧ (Lit.int k n).wf = true) → ∃ l : List Int, cs = l.map (.int k) ∧ ∀ x ∈ l, (Lit.int k x).wf = true
  | [], _ => ⟨[], rfl, fun x h => (by cases h)⟩
  | v :: cs, h => by
    obtain ⟨n, h1, h2⟩ := h 0 (by simp)
    simp at h1
    subst h1
    obtain ⟨l, rfl, h3⟩ := ints_of cs fun i hi => by simpa using h (i + 1) (by simpa using hi)
    refine ⟨n :: l, rfl, fun x hx => ?_⟩
    rcases List.mem_cons.1 hx with rfl | hx
    · exact h2
    · exact h3 x hx

theorem open_cr (B : BulkLaw bk ba) : ∀ (m : Nat) {u : Ty} {t : TypeId} {fuel : Nat} {cs : List Value} {x : DataW H × List MemPlace}, tyFits P m u t = true → (∀ z ∈ DataW.weights P t x.1, z ≤ reachBytes) → DataW.trod enc P w 0 sp held fuel t cs = some x → ∃ d : Den u, CR w (inHeap w) u d cs ∧ Wf u d ∧ bd u d ≤ bk x.1
  | 0, _, _, _, _, _, h, _, _ => by cases h
  | m + 1, u, t, fuel, cs, x, h, hz, hx => by
    unfold tyFits at h
    split at h
    · rename_i hu
      obtain ⟨b, rfl, _⟩ := DataW.trod_bool hu hx
      exact ⟨b, rfl, trivial, B.one _⟩
    · rename_i k k' hu
      simp only [decide_eq_true_eq] at h
      subst h
      obtain ⟨n, rfl, _, hw⟩ := DataW.trod_int hu hx
      exact ⟨n, rfl, hw, B.one _⟩
    · rename_i hu
      obtain ⟨s, rfl, rfl, hs⟩ := DataW.trod_string hu hx
      exact ⟨s, rfl, by show ByteArray.size s ≤ reachBytes; simpa using hz s.data.toList.length (by simp [DataW.weights]), by have := B.st s.data.toList; rw [Array.length_toList] at this; exact this⟩
    · rename_i e v hu
      simp only [Bool.and_eq_true] at h
      obtain ⟨⟨⟨h1, h2⟩, h3⟩, h4⟩ := h
      have h2 := Nat.eq_of_beq_eq_true h2
      have h3 : 1 ≤ v.size := by simpa using h3
      have h4 : v.by_ ≤ P.bytesOf e := by simpa using h4
      rcases DataW.trod_slice hu hx with ⟨rfl, _⟩ | ⟨a, len, cap, elems, rest, n, rfl, rfl, rfl, hb, hl, hm, hlen, hel, _, _⟩
      · exact ⟨[], ⟨_, rfl, none, 0, rfl, Nat.le_refl _, fun hne => absurd rfl hne⟩, ⟨by simp [Nat.zero_le], fun x hx => (by cases hx)⟩, B.one _⟩
      · have hw0 : ∀ d ∈ elems.map (·.1), ∀ z ∈ DataW.weights P e d, z ≤ reachBytes := fun d hd z hz' => hz z (by
          simp only [DataW.weights, hu, List.mem_cons, List.mem_append]
          exact .inr (.inl (weights_mem hz' hd)))
        have each : ∀ i, i < len → ∃ (d : Den v) (r : List Value), CR w (inHeap w) v d r ∧ (Wf v d ∧ bd v d ≤ bk ((elems.map (·.1)).getD i .nil)) ∧ r.length = v.size ∧ ∀ j, j < v.size → w.cell? ((a.add (i * v.size)).add j) = r[j]? := by
          intro i hi
          have := hel i hi
          rw [List.getElem?_eq_getElem (by omega), h2] at this
          obtain ⟨r, hr, ht⟩ := Option.bind_eq_some_iff.1 this
          obtain ⟨_, hrl, hrc⟩ := World.cells?_some hr
          obtain ⟨d, c1, w1, b1⟩ := open_cr B m h1 (hw0 _ (List.mem_map_of_mem (List.getElem_mem (by omega)))) ht
          exact ⟨d, r, c1, ⟨w1, by rw [List.getD_eq_getElem?_getD, List.getElem?_map, List.getElem?_eq_getElem (by omega)]; exact b1⟩, hrl, hrc⟩
        obtain ⟨l, us, e1, e2, e3, e4, e5, e6⟩ := rows_listB (B := fun i => bk ((elems.map (·.1)).getD i .nil)) len each
        refine ⟨l, ⟨_, rfl, some a, cap, by rw [e1], by omega, fun hne => ⟨a, us, rfl, ?_, e2, e5⟩⟩, ⟨?_, e3⟩, ?_⟩
        rotate_left
        · have := hz ((elems.length + rest.length) * P.bytesOf e) (by simp [DataW.weights, hu])
          have k1 : l.length * v.by_ ≤ (elems.length + rest.length) * P.bytesOf e := Nat.mul_le_mul (by omega) h4
          exact Nat.le_trans k1 this
        · have k1 := B.sum (elems.map (·.1))
          rw [List.length_map, show elems.length = len by omega] at k1
          have k2 := B.sl (elems.map (·.1)) (rest.map (·.1))
          simp only [bd]
          exact Nat.le_trans (Nat.succ_le_succ (Nat.le_trans e6 k1)) k2
        have hlen0 : 0 < len := by
          rw [← e1]
          exact List.length_pos_iff.2 hne
        have := hel 0 hlen0
        rw [List.getElem?_eq_getElem (by omega), h2] at this
        obtain ⟨r, hr, _⟩ := Option.bind_eq_some_iff.1 this
        have hb := World.cells?_block hr (by omega)
        have hbl : (a.add (0 * v.size)).block = a.block := by unfold Addr.add; split <;> rfl
        rw [hbl] at hb
        exact hb
    · rename_i u F hu
      rw [Bool.and_eq_true] at h
      obtain ⟨xs, n, rfl, rfl, hl, hxl, hf⟩ := DataW.trod_struct hu hx
      have hz' : ∀ z ∈ DataW.weightsEach P (F.toList.map (·.type)) (xs.map (·.1)), z ≤ reachBytes := fun z h => hz z (by simp only [DataW.weights, hu]; exact h)
      have h2 := Nat.eq_of_beq_eq_true h.2
      have := fits_struct B (g := tyFits P m) (fun h1 h2 h3 => open_cr B m h1 h2 h3) F.toList _ 0 cs xs h.1 (by omega) (by simpa using hxl) hz' fun i f hi => hf i f (by rw [← Array.getElem?_toList]; exact hi)
      obtain ⟨d, c1, w1, b1⟩ := this
      exact ⟨d, by simpa using c1, w1, Nat.le_trans b1 (B.ag _)⟩
    · rename_i hu
      split at h
      · rename_i k' he
        simp only [Bool.and_eq_true, decide_eq_true_eq] at h
        obtain ⟨⟨⟨rfl, h2⟩, h3⟩, h4⟩ := h
        have h2 := Nat.eq_of_beq_eq_true h2
        have h3 := Nat.eq_of_beq_eq_true h3
        have h4 := Nat.eq_of_beq_eq_true h4
        obtain ⟨xs, n, hx1, hl, hxl, hf⟩ := trod_array hu hx
        obtain ⟨l, rfl, hw⟩ := ints_of cs fun i hi => by
          have := hf i (by omega)
          rw [h3, List.getElem?_eq_getElem (by omega)] at this
          obtain ⟨z, hz, _, hwz⟩ := DataW.trod_int he this
          refine ⟨z, ?_, hwz⟩
          have := congrArg (·[0]?) hz
          simpa [List.getElem?_take] using this
        exact ⟨l, ⟨by simp at hl; omega, rfl⟩, ⟨by simp at hl; omega, hw⟩, by rw [hx1]; have k := B.len (xs.map (·.1)); rw [List.length_map] at k; simp only [bd]; have k2 := B.ag (xs.map (·.1)); omega⟩
      · cases h
    · cases h
end

end Go.Fw

/- The picture as plain functions: what is seen at a position, and many cycles. -/
namespace Go.Proofs.Ytblnigjmcjpopaa
open Go.Fw
set_option linter.unusedVariables false
set_option linter.unusedSimpArgs false

abbrev bA (m : List Int) (i : Nat) : Int := m.getD i 0
def u8s (m : List Int) : Prop := ∀ x ∈ m, 0 ≤ x ∧ x < 256
instance (m : List Int) : Decidable (u8s m) := by unfold u8s; exact inferInstance
theorem u8s_get {m : List Int} (h : u8s m) (i : Nat) : 0 ≤ bA m i ∧ bA m i < 256 := by
  unfold bA
  rw [List.getD_eq_getElem?_getD]
  cases hi : m[i]? with
  | none => exact ⟨by decide, by decide⟩
  | some x => exact h x (List.mem_of_getElem? hi)
theorem u8s_of {l : List Int} (h : ∀ x ∈ l, Wf (.int .u8) x) : u8s l := by
  intro x hx
  have h2 : (decide (IntKind.u8.min ≤ x) && decide (x ≤ IntKind.u8.max)) = true := h x hx
  have e1 : IntKind.u8.min = 0 := by decide +kernel
  have e2 : IntKind.u8.max = 255 := by decide +kernel
  rw [e1, e2] at h2
  simp only [Bool.and_eq_true, decide_eq_true_eq] at h2
  exact ⟨h2.1, by omega⟩
def visB (pos : Int) : Bool := decide (pos % 64 < 48) && decide (pos / 64 < 32)
def cellF (m : List Int) (pos : Int) : Int := bA m (8 + pos / 64 / 8 * 6 + pos % 64 / 8).toNat % 16
def spriteB (m : List Int) (pos : Int) : Bool :=
  (decide (bA m 1 ≤ pos % 64) && decide (pos % 64 < bA m 1 + 8)) && ((decide (bA m 2 ≤ pos / 64) && decide (pos / 64 < bA m 2 + 8)) && decide (bA m 4 / 2 ^ (7 - (pos % 64 - bA m 1)).toNat % 2 = 1))
def shadeB (m : List Int) (pos : Int) (i : Nat) : Bool :=
  decide (pos % 64 = bA m 1 + i) && ((decide (bA m 2 ≤ pos / 64) && decide (pos / 64 < bA m 2 + 8)) && decide (bA m 4 / 2 ^ (7 - i) % 2 = 1))
theorem sprite_yes {m : List Int} {pos : Int} {i : Nat} (hi : i < 8) (h : shadeB m pos i = true) : spriteB m pos = true := by
  unfold shadeB at h
  simp only [Bool.and_eq_true, decide_eq_true_eq] at h
  obtain ⟨h1, h2, h3⟩ := h
  unfold spriteB
  simp only [Bool.and_eq_true, decide_eq_true_eq]
  refine ⟨⟨by omega, by omega⟩, h2, ?_⟩
  have e : (7 - (pos % 64 - bA m 1)).toNat = 7 - i := by omega
  rw [e]; exact h3
theorem sprite_no {m : List Int} {pos : Int} (h : ∀ i, i < 8 → shadeB m pos i = false) : spriteB m pos = false := by
  cases hs : spriteB m pos with
  | false => rfl
  | true =>
    exfalso
    unfold spriteB at hs
    simp only [Bool.and_eq_true, decide_eq_true_eq] at hs
    obtain ⟨⟨h1, h2⟩, h3, h4⟩ := hs
    have := h (pos % 64 - bA m 1).toNat (by omega)
    have ht : shadeB m pos (pos % 64 - bA m 1).toNat = true := by
      unfold shadeB
      simp only [Bool.and_eq_true, decide_eq_true_eq]
      refine ⟨by omega, h3, ?_⟩
      have e : (7 - (pos % 64 - bA m 1)).toNat = 7 - (pos % 64 - bA m 1).toNat := by omega
      rw [← e]; exact h4
    rw [ht] at this
    cases this
def colorF (m : List Int) (pos : Int) : Int := if visB pos = true then (if spriteB m pos = true then bA m 3 % 16 else cellF m pos) else bA m 0 % 16
def hitB (m : List Int) (pos : Int) : Bool := visB pos && (spriteB m pos && decide (cellF m pos ≠ 0))
theorem cellF_in (m : List Int) (pos : Int) : 0 ≤ cellF m pos ∧ cellF m pos < 16 := by unfold cellF; omega
/-- bits of a byte -/
theorem byte_bit : ∀ x, x < 256 → ∀ i, i < 8 → (shl .u8 ((x : Nat) : Int) ((i : Nat) : Int) ≥ 128 ↔ x / 2 ^ (7 - i) % 2 = 1) := by decide +kernel
theorem byte_bit2 : ∀ x, x < 256 → ∀ i, i < 8 → (land .u8 (shr .u8 ((x : Nat) : Int) ((i : Nat) : Int)) 1 = 1 ↔ x / 2 ^ i % 2 = 1) := by decide +kernel
theorem byte_bitI {x : Int} (h : 0 ≤ x ∧ x < 256) {i : Nat} (hi : i < 8) : shl .u8 x ((i : Nat) : Int) ≥ 128 ↔ x / 2 ^ (7 - i) % 2 = 1 := by
  obtain ⟨n, rfl⟩ := Int.eq_ofNat_of_zero_le h.1
  rw [byte_bit n (by omega) i hi]
  have e : ((n : Int) / 2 ^ (7 - i) % 2) = ((n / 2 ^ (7 - i) % 2 : Nat) : Int) := by simp
  rw [e]; omega
theorem byte_bitI2 {x : Int} (h : 0 ≤ x ∧ x < 256) {i : Nat} (hi : i < 8) : land .u8 (shr .u8 x ((i : Nat) : Int)) 1 = 1 ↔ x / 2 ^ i % 2 = 1 := by
  obtain ⟨n, rfl⟩ := Int.eq_ofNat_of_zero_le h.1
  rw [byte_bit2 n (by omega) i hi]
  have e : ((n : Int) / 2 ^ i % 2) = ((n / 2 ^ i % 2 : Nat) : Int) := by simp
  rw [e]; omega

theorem land15 : ∀ n, n < 256 → land .i64 ((n : Nat) : Int) 15 = ((n : Nat) : Int) % 16 := by decide +kernel
theorem land15I {x : Int} (h : 0 ≤ x ∧ x < 256) : land .i64 (IntKind.i64.wrap x) 15 = x % 16 := by
  rw [w64 (by omega) (by omega)]
  obtain ⟨n, rfl⟩ := Int.eq_ofNat_of_zero_le h.1
  exact land15 n (by omega)
def vP (N : List Int) : Int := if N.length = 0 then 2559 else N.getD 0 0 % 2560
abbrev vH (N : List Int) : Int := N.getD 1 0 % 2
def vN (N : List Int) : List Int := [vP N, vH N]
def vM (M : List Int) : List Int := over (List.replicate 32 0) M 0
theorem vP_in (N : List Int) : 0 ≤ vP N ∧ vP N < 2560 := by unfold vP; split <;> omega
theorem vM_len (M : List Int) : (vM M).length = 32 := by unfold vM; rw [over_length]; rfl
theorem vM_u8 {M : List Int} (h : u8s M) : u8s (vM M) := by
  intro x hx
  have : ∀ (l : List Int) (i : Nat), (∀ y ∈ l, 0 ≤ y ∧ y < 256) → ∀ y ∈ over l M i, 0 ≤ y ∧ y < 256 := by
    intro l
    induction l with
    | nil => intro i _ y hy; cases hy
    | cons d l ih =>
      intro i hl y hy
      rcases List.mem_cons.1 hy with rfl | hy
      · rw [List.getD_eq_getElem?_getD]
        cases hi : M[i]? with
        | none => exact hl d (List.mem_cons_self)
        | some z => exact h z (List.mem_of_getElem? hi)
      · exact ih (i + 1) (fun y hy => hl y (List.mem_cons_of_mem _ hy)) y hy
  exact this _ 0 (fun y hy => by rw [List.eq_of_mem_replicate hy]; decide) x hx
theorem vM_idem {m : List Int} (h : m.length = 32) : vM m = m := by
  unfold vM
  rw [over_eq]
  simp only [List.length_replicate, List.drop_replicate, h, Nat.sub_self, List.replicate_zero, List.append_nil, List.drop_zero]
  exact List.take_of_length_le (by omega)
theorem cell_at {pos : Int} (hp0 : 0 ≤ pos) (hp1 : pos < 2560) : IntKind.i64.wrap (IntKind.i64.wrap (8 + IntKind.i64.wrap (IntKind.i64.wrap (Int.tdiv (IntKind.i64.wrap (Int.tdiv pos 64)) 8) * 6)) + IntKind.i64.wrap (Int.tdiv (Int.tmod pos 64) 8)) = 8 + pos / 64 / 8 * 6 + pos % 64 / 8 := by
  have eq64 : IntKind.i64.wrap (Int.tdiv pos 64) = pos / 64 := by rw [Int.tdiv_eq_ediv_of_nonneg hp0, w64 (by omega) (by omega)]
  have er64 : Int.tmod pos 64 = pos % 64 := Int.tmod_eq_emod_of_nonneg hp0
  rw [eq64, er64, Int.tdiv_eq_ediv_of_nonneg (show 0 ≤ pos / 64 by omega), Int.tdiv_eq_ediv_of_nonneg (show 0 ≤ pos % 64 by omega), w64 (x := pos / 64 / 8) (by omega) (by omega), w64 (x := pos / 64 / 8 * 6) (by omega) (by omega),
    w64 (x := 8 + pos / 64 / 8 * 6) (by omega) (by omega), w64 (x := pos % 64 / 8) (by omega) (by omega), w64 (by omega) (by omega)]
def tickV (m : List Int) : List Int → List Int
  | [p, h] => [(p + 1) % 2560, if hitB m ((p + 1) % 2560) = true then 1 else h]
  | l => l
theorem vN_idem {p h : Int} (hp : 0 ≤ p ∧ p < 2560) (hh : 0 ≤ h ∧ h < 2) : vN [p, h] = [p, h] := by
  show [p % 2560, h % 2] = _
  rw [Int.emod_eq_of_lt hp.1 hp.2, Int.emod_eq_of_lt hh.1 hh.2]
def anyH (m : List Int) (p : Int) (n : Nat) : Bool := (List.range n).any fun j => hitB m ((p + 1 + j) % 2560)
theorem anyH_succ (m : List Int) (p : Int) (n : Nat) : anyH m p (n + 1) = (anyH m p n || hitB m ((p + 1 + n) % 2560)) := by
  unfold anyH
  rw [List.range_succ, List.any_append]; simp
theorem iterV (m : List Int) {p h : Int} (hp : 0 ≤ p ∧ p < 2560) : ∀ n, iterF (tickV m) n [p, h] = [(p + n) % 2560, if anyH m p n = true then 1 else h]
  | 0 => by
    rw [iterF]
    have e : (p + ((0 : Nat) : Int)) % 2560 = p := by omega
    rw [e]; rfl
  | n + 1 => by
    rw [iterF_succ, iterV m hp n, tickV, anyH_succ]
    have e : ((p + (n : Int)) % 2560 + 1) % 2560 = (p + ((n + 1 : Nat) : Int)) % 2560 := by omega
    have e2 : (p + 1 + (n : Int)) % 2560 = (p + ((n + 1 : Nat) : Int)) % 2560 := by omega
    rw [e, e2]
    cases hitB m ((p + ((n + 1 : Nat) : Int)) % 2560) <;> cases anyH m p n <;> rfl
theorem anyH_mono {m : List Int} {p : Int} {a b : Nat} (h : a ≤ b) (ha : anyH m p a = true) : anyH m p b = true := by
  unfold anyH at *
  rw [List.any_eq_true] at *
  obtain ⟨j, hj, hh⟩ := ha
  exact ⟨j, List.mem_range.2 (by have := List.mem_range.1 hj; omega), hh⟩
theorem anyH_all {m : List Int} {p : Int} {a : Nat} (h : 2560 ≤ a) : anyH m p a = anyH m p 2560 := by
  cases h2 : anyH m p 2560 with
  | true => exact anyH_mono h h2
  | false =>
    cases ha : anyH m p a with
    | false => rfl
    | true =>
      exfalso
      unfold anyH at ha h2
      rw [List.any_eq_true] at ha
      obtain ⟨j, hj, hh⟩ := ha
      rw [List.any_eq_false] at h2
      refine h2 (j % 2560) (List.mem_range.2 (by omega)) ?_
      have e : (p + 1 + ((j % 2560 : Nat) : Int)) % 2560 = (p + 1 + (j : Int)) % 2560 := by omega
      rw [e]; exact hh
theorem iterV_far (m : List Int) {p h : Int} (hp : 0 ≤ p ∧ p < 2560) {n : Nat} (hn : 5120 < n) : iterF (tickV m) n [p, h] = iterF (tickV m) (2560 + n % 2560) [p, h] := by
  rw [iterV m hp, iterV m hp, anyH_all (by omega), anyH_all (a := 2560 + n % 2560) (by omega)]
  have e : (p + (n : Int)) % 2560 = (p + ((2560 + n % 2560 : Nat) : Int)) % 2560 := by omega
  rw [e]

end Go.Proofs.Ytblnigjmcjpopaa

/- The chip that reads and writes disks as plain functions: cycles. -/
namespace Go.Proofs.Ytblnigjmcjpopaa
open Go.Fw
set_option linter.unusedVariables false
set_option linter.unusedSimpArgs false

abbrev DS := List Int × List Int
def iterA {α : Type} (f : α → α) : Nat → α → α
  | 0, l => l
  | n + 1, l => iterA f n (f l)
theorem iterA_add {α : Type} (f : α → α) : ∀ (m n : Nat) (l : α), iterA f (m + n) l = iterA f n (iterA f m l)
  | 0, n, l => by rw [Nat.zero_add]; rfl
  | m + 1, n, l => by
    have e : m + 1 + n = (m + n) + 1 := by omega
    rw [e]
    exact iterA_add f m n (f l)
theorem iterA_succ {α : Type} (f : α → α) (n : Nat) (l : α) : iterA f (n + 1) l = f (iterA f n l) := by
  rw [iterA_add f n 1]; rfl
theorem iterA_fix {α : Type} {f : α → α} {l : α} (h : f l = l) : ∀ n, iterA f n l = l
  | 0 => rfl
  | n + 1 => by rw [iterA, h]; exact iterA_fix h n

def atI (k t s i : Int) : Int := 256 * k - 256 + 64 * t + 16 * s + i
def toI (c t : Int) : Int := if c = 1 then (if t + 1 < 4 then t + 1 else t) else (if 0 ≤ t - 1 then t - 1 else t)
def doneF : DS → DS
  | ([k, t, c, s, i, l, d, r, o, x], m) =>
    if c < 3 then ([k, toI c t, 0, s, i, 0, d, r, o, x], m)
    else if i + 1 = 16 then ([k, t, 0, s, 0, 0, if c = 3 then m.getD (atI k t s i).toNat 0 else d, if c = 4 then 0 else 1, if r = 1 then 1 else o, x], if c = 3 then m else m.set (atI k t s i).toNat d)
    else ([k, t, c, s, i + 1, 20, if c = 3 then m.getD (atI k t s i).toNat 0 else d, 1, if r = 1 then 1 else o, x], if c = 3 then m else m.set (atI k t s i).toNat d)
  | s => s
def turnF : DS → DS
  | ([k, t, c, s, i, l, d, r, o, x], m) =>
    if c > 0 then
      (if c > 2 ∧ k = 0 then ([k, t, 0, s, i, l, d, r, o, x], m)
       else if l > 1 then ([k, t, c, s, i, l - 1, d, r, o, x], m)
       else doneF ([k, t, c, s, i, l, d, r, o, x], m))
    else ([k, t, c, s, i, l, d, r, o, x], m)
  | s => s
inductive dOk (q : Nat) : List Int → Prop
  | mk {k t c s i l d r o x : Int} (hk : 0 ≤ k ∧ k ≤ q ∧ k < 256) (ht : 0 ≤ t ∧ t < 4) (hc : 0 ≤ c ∧ c ≤ 4) (hs : 0 ≤ s ∧ s < 4) (hi : 0 ≤ i ∧ i < 16) (hl : 0 ≤ l ∧ l < 64) (hd : 0 ≤ d ∧ d < 256) (hr : 0 ≤ r ∧ r < 2) (ho : 0 ≤ o ∧ o < 2) (hx : 0 ≤ x ∧ x < 2) : dOk q [k, t, c, s, i, l, d, r, o, x]
theorem dOk.len {q : Nat} {l : List Int} (h : dOk q l) : l.length = 10 := by cases h; rfl
theorem dN_ok (N : List Int) (q : Nat) : dOk q (dN N q) := by
  refine ⟨?_, by omega, ?_, by omega, by omega, by omega, by omega, by omega, by omega, by omega⟩
  · split <;> omega
  · split <;> omega
theorem dN_idem {q : Nat} {l : List Int} (h : dOk q l) : dN l q = l := by
  cases h with
  | mk hk ht hc hs hi hl hd hr ho hx =>
    rename_i k t c s i l d r o x
    show [if k % 256 > q then 0 else k % 256, t % 4, if c % 8 > 4 then 0 else c % 8, s % 4, i % 16, l % 64, d % 256, r % 2, o % 2, x % 2] = _
    rw [Int.emod_eq_of_lt hk.1 hk.2.2, Int.emod_eq_of_lt ht.1 ht.2, Int.emod_eq_of_lt (a := c) (b := 8) hc.1 (by omega), Int.emod_eq_of_lt hs.1 hs.2, Int.emod_eq_of_lt hi.1 hi.2, Int.emod_eq_of_lt hl.1 hl.2, Int.emod_eq_of_lt hd.1 hd.2,
      Int.emod_eq_of_lt hr.1 hr.2, Int.emod_eq_of_lt ho.1 ho.2, Int.emod_eq_of_lt hx.1 hx.2, if_neg (by omega), if_neg (by omega)]
structure DOk (q : Nat) (s : DS) : Prop where
  n : dOk q s.1
  m : s.2.length = q * 256
  u : u8s s.2
theorem u8s_set {m : List Int} (h : u8s m) {d : Int} (hd : 0 ≤ d ∧ d < 256) (i : Nat) : u8s (m.set i d) := by
  intro x hx
  rcases List.mem_or_eq_of_mem_set hx with h1 | rfl
  · exact h x h1
  · exact hd
theorem toI_in {c t : Int} (h : 0 ≤ t ∧ t < 4) : 0 ≤ toI c t ∧ toI c t < 4 := by
  unfold toI
  split <;> split <;> omega
theorem doneF_ok {q : Nat} {s : DS} (h : DOk q s) : DOk q (doneF s) := by
  obtain ⟨n, m⟩ := s
  obtain ⟨hn, hm, hu⟩ := h
  have hm : m.length = q * 256 := hm
  have hu : u8s m := hu
  cases hn with
  | mk hk ht hc hs hi hl hd hr ho hx =>
    rename_i k t c s i l d r o x
    have hb := u8s_get hu (atI k t s i).toNat
    have hb : 0 ≤ m.getD (atI k t s i).toNat 0 ∧ m.getD (atI k t s i).toNat 0 < 256 := hb
    have hdd : 0 ≤ (if c = 3 then m.getD (atI k t s i).toNat 0 else d) ∧ (if c = 3 then m.getD (atI k t s i).toNat 0 else d) < 256 := by split <;> assumption
    have hoo : 0 ≤ (if r = 1 then 1 else o) ∧ (if r = 1 then 1 else o) < 2 := by split <;> omega
    have hlen : (if c = 3 then m else m.set (atI k t s i).toNat d).length = q * 256 := by split <;> simp [hm]
    have huu : u8s (if c = 3 then m else m.set (atI k t s i).toNat d) := by
      split
      · exact hu
      · exact u8s_set hu hd _
    rw [doneF]
    by_cases h1 : c < 3
    · rw [if_pos h1]
      exact ⟨⟨hk, toI_in ht, by omega, hs, hi, by omega, hd, hr, ho, hx⟩, hm, hu⟩
    · rw [if_neg h1]
      by_cases h2 : i + 1 = 16
      · rw [if_pos h2]
        exact ⟨⟨hk, ht, by omega, hs, by omega, by omega, hdd, by split <;> omega, hoo, hx⟩, hlen, huu⟩
      · rw [if_neg h2]
        exact ⟨⟨hk, ht, hc, hs, by omega, by omega, hdd, by omega, hoo, hx⟩, hlen, huu⟩
theorem turnF_ok {q : Nat} {s : DS} (h : DOk q s) : DOk q (turnF s) := by
  obtain ⟨n, m⟩ := s
  have h0 := h
  obtain ⟨hn, hm, hu⟩ := h
  have hm : m.length = q * 256 := hm
  have hu : u8s m := hu
  cases hn with
  | mk hk ht hc hs hi hl hd hr ho hx =>
    rename_i k t c s i l d r o x
    rw [turnF]
    by_cases h1 : c > 0
    · rw [if_pos h1]
      by_cases h2 : c > 2 ∧ k = 0
      · rw [if_pos h2]
        exact ⟨⟨hk, ht, by omega, hs, hi, hl, hd, hr, ho, hx⟩, hm, hu⟩
      · rw [if_neg h2]
        by_cases h3 : l > 1
        · rw [if_pos h3]
          exact ⟨⟨hk, ht, hc, hs, hi, by omega, hd, hr, ho, hx⟩, hm, hu⟩
        · rw [if_neg h3]; exact doneF_ok h0
    · rw [if_neg h1]; exact h0
theorem iterT_ok {q : Nat} {s : DS} (h : DOk q s) : ∀ n, DOk q (iterA turnF n s)
  | 0 => h
  | n + 1 => by rw [iterA_succ]; exact turnF_ok (iterT_ok h n)
theorem skip_idle {k t c s i l d r o x : Int} {m : List Int} (hc : ¬ c > 0) (n : Nat) : iterA turnF n ([k, t, c, s, i, l, d, r, o, x], m) = ([k, t, c, s, i, l, d, r, o, x], m) :=
  iterA_fix (by rw [turnF, if_neg hc]) n
theorem skip_none {k t c s i l d r o x : Int} {m : List Int} (hc : c > 2) (hk : k = 0) {n : Nat} (hn : 0 < n) : iterA turnF n ([k, t, c, s, i, l, d, r, o, x], m) = ([k, t, 0, s, i, l, d, r, o, x], m) := by
  obtain ⟨n, rfl⟩ : ∃ n', n = n' + 1 := ⟨n - 1, by omega⟩
  rw [iterA, turnF, if_pos (by omega), if_pos ⟨hc, hk⟩]
  exact skip_idle (by decide) n
theorem skip_wait {k t c s i d r o x : Int} {m : List Int} (hc : c > 0) (hk : ¬ (c > 2 ∧ k = 0)) : ∀ (n : Nat) (l : Int), (n : Int) < l → iterA turnF n ([k, t, c, s, i, l, d, r, o, x], m) = ([k, t, c, s, i, l - n, d, r, o, x], m)
  | 0, l, _ => by rw [iterA]; simp
  | n + 1, l, h => by
    rw [iterA, turnF, if_pos hc, if_neg hk, if_pos (by omega), skip_wait hc hk n (l - 1) (by omega)]
    have : l - 1 - (n : Int) = l - ((n + 1 : Nat) : Int) := by omega
    rw [this]
theorem doneF_left {k t c s i l l' d r o x : Int} {m : List Int} : doneF ([k, t, c, s, i, l, d, r, o, x], m) = doneF ([k, t, c, s, i, l', d, r, o, x], m) := rfl
theorem skip_done {k t c s i l d r o x : Int} {m : List Int} (hc : c > 0) (hk : ¬ (c > 2 ∧ k = 0)) (hl : 0 ≤ l) {n : Nat} (hn : 0 < n) (h : ¬ (n : Int) < l) :
    iterA turnF n ([k, t, c, s, i, l, d, r, o, x], m) = iterA turnF ((n : Int) - max 1 l).toNat (doneF ([k, t, c, s, i, 0, d, r, o, x], m)) := by
  have e : n = (l - 1).toNat + (((n : Int) - max 1 l).toNat + 1) := by omega
  rw [e, iterA_add]
  have e2 : iterA turnF (l - 1).toNat ([k, t, c, s, i, l, d, r, o, x], m) = ([k, t, c, s, i, l - ((l - 1).toNat : Nat), d, r, o, x], m) := by
    by_cases h0 : l = 0
    · subst h0
      show iterA turnF 0 _ = _
      rw [iterA]; simp
    · exact skip_wait hc hk _ _ (by omega)
  have e3 : (((l - 1).toNat + (((n : Int) - max 1 l).toNat + 1) : Nat) : Int) = n := by omega
  rw [e2, e3, iterA, turnF, if_pos hc, if_neg hk, if_neg (by omega)]
  rw [doneF_left (l' := 0)]
def placeDF : List Int → Int
  | [k, t, c, s, i, l, d, r, o, x] => atI k t s i
  | _ => 0
def canDo (s : DS) : Prop := 0 < s.1.getD 2 0 ∧ (2 < s.1.getD 2 0 → 0 < s.1.getD 0 0) ∧ s.1.getD 5 0 = 0
theorem atI_in {k t s i : Int} {q : Nat} (hk : 0 < k ∧ k ≤ q) (ht : 0 ≤ t ∧ t < 4) (hs : 0 ≤ s ∧ s < 4) (hi : 0 ≤ i ∧ i < 16) : 0 ≤ atI k t s i ∧ atI k t s i < ((q * 256 : Nat) : Int) := by
  unfold atI; omega
theorem atI_small {k t s i : Int} (hk : 0 ≤ k ∧ k < 256) (ht : 0 ≤ t ∧ t < 4) (hs : 0 ≤ s ∧ s < 4) (hi : 0 ≤ i ∧ i < 16) : -256 ≤ atI k t s i ∧ atI k t s i < 65536 := by
  unfold atI; omega
theorem doneF_lt {k t c s i l d r o x : Int} {m : List Int} (h : c < 3) : doneF ([k, t, c, s, i, l, d, r, o, x], m) = ([k, toI c t, 0, s, i, 0, d, r, o, x], m) := by rw [doneF, if_pos h]
theorem doneF_16 {k t c s i l d r o x : Int} {m : List Int} (h : ¬ c < 3) (h2 : i + 1 = 16) : doneF ([k, t, c, s, i, l, d, r, o, x], m) =
    ([k, t, 0, s, 0, 0, if c = 3 then m.getD (atI k t s i).toNat 0 else d, if c = 4 then 0 else 1, if r = 1 then 1 else o, x], if c = 3 then m else m.set (atI k t s i).toNat d) := by rw [doneF, if_neg h, if_pos h2]
theorem doneF_go {k t c s i l d r o x : Int} {m : List Int} (h : ¬ c < 3) (h2 : ¬ i + 1 = 16) : doneF ([k, t, c, s, i, l, d, r, o, x], m) =
    ([k, t, c, s, i + 1, 20, if c = 3 then m.getD (atI k t s i).toNat 0 else d, 1, if r = 1 then 1 else o, x], if c = 3 then m else m.set (atI k t s i).toNat d) := by rw [doneF, if_neg h, if_neg h2]
theorem l10 {a b c d e f g h i j a' b' c' d' e' f' g' h' i' j' : Int} (h1 : a = a') (h2 : b = b') (h3 : c = c') (h4 : d = d') (h5 : e = e') (h6 : f = f') (h7 : g = g') (h8 : h = h') (h9 : i = i') (h10 : j = j') : [a, b, c, d, e, f, g, h, i, j] = [a', b', c', d', e', f', g', h', i', j'] := by rw [h1, h2, h3, h4, h5, h6, h7, h8, h9, h10]
theorem turn_none {k t c s i l d r o x : Int} {m : List Int} (hc : c > 2) (hk : k = 0) : turnF ([k, t, c, s, i, l, d, r, o, x], m) = ([k, t, 0, s, i, l, d, r, o, x], m) := by rw [turnF, if_pos (by omega), if_pos ⟨hc, hk⟩]
theorem turn_wait {k t c s i l d r o x : Int} {m : List Int} (hc : c > 0) (hk : ¬ (c > 2 ∧ k = 0)) (hl : l > 1) : turnF ([k, t, c, s, i, l, d, r, o, x], m) = ([k, t, c, s, i, l - 1, d, r, o, x], m) := by rw [turnF, if_pos hc, if_neg hk, if_pos hl]
theorem turn_done {k t c s i l d r o x : Int} {m : List Int} (hc : c > 0) (hk : ¬ (c > 2 ∧ k = 0)) (hl : ¬ l > 1) : turnF ([k, t, c, s, i, l, d, r, o, x], m) = doneF ([k, t, c, s, i, l, d, r, o, x], m) := by rw [turnF, if_pos hc, if_neg hk, if_neg hl]
theorem at_turn {k t s i : Int} (hk : 0 ≤ k ∧ k < 256) (ht : 0 ≤ t ∧ t < 4) (hs : 0 ≤ s ∧ s < 4) (hi : 0 ≤ i ∧ i < 16) :
    IntKind.i64.wrap (IntKind.i64.wrap (IntKind.i64.wrap (IntKind.i64.wrap (IntKind.i64.wrap (256 * k) - 256) + IntKind.i64.wrap (64 * t)) + IntKind.i64.wrap (16 * s)) + i) = atI k t s i := by
  rw [w64 (x := 256 * k) (by omega) (by omega), w64 (x := 256 * k - 256) (by omega) (by omega), w64 (x := 64 * t) (by omega) (by omega), w64 (x := 256 * k - 256 + 64 * t) (by omega) (by omega), w64 (x := 16 * s) (by omega) (by omega),
    w64 (x := 256 * k - 256 + 64 * t + 16 * s) (by omega) (by omega), w64 (by omega) (by omega)]; rfl
theorem set_at {m : List Int} {a b : Int} {x y : Int} (h : a = b) (h2 : x = y) : m.set a.toNat x = m.set b.toNat y := by rw [h, h2]
theorem get_at {m : List Int} {a b : Int} (h : a = b) : m.getD a.toNat 0 = m.getD b.toNat 0 := by rw [h]
theorem or1 {o r : Int} (ho : 0 ≤ o ∧ o < 2) (hr : 0 ≤ r ∧ r < 2) : lor .i64 o r = if r = 1 then 1 else o := by
  have a1 : o = 0 ∨ o = 1 := by omega
  have a2 : r = 0 ∨ r = 1 := by omega
  rcases a1 with rfl | rfl <;> rcases a2 with rfl | rfl <;> decide +kernel

end Go.Proofs.Ytblnigjmcjpopaa

/- The chip that reads and writes disks: what is done when its time has come. -/
namespace Go.Proofs.Ytblnigjmcjpopaa
open Go.Fw
set_option linter.unusedVariables false
set_option linter.unusedSimpArgs false
set_option maxRecDepth 100000

theorem wrap8b {x : Int} (h : 0 ≤ x ∧ x < 256) : IntKind.u8.wrap x = x := by
  show x % 256 = x
  omega
theorem blk_d {l l' m m' : List Int} (h : l = l') (h2 : m = m') : [some (Blk.arr (.int .i64) l), some (Blk.arr (.int .u8) m)] = [some (Blk.arr (.int .i64) l'), some (Blk.arr (.int .u8) m')] := by rw [h, h2]
def placeDS : PSpec := ⟨[gl], fun (l, _) => (some (∃ q, dOk q l), I (placeDF l), [])⟩
theorem placeD_ok : GoodF Try.prog 200 placeDS.spec := by
  have hT := tab_ok (fs := []) tree_ok
  have hP : SpecsOk Try.prog (tab tree []) := specs_nil
  refine placeDS.good (fn := Try.f200) hT hP Try.func200 (by kernel_rfl) rfl fun (l : List Int) hq => ?_
  obtain ⟨q, hp⟩ : ∃ q, dOk q l := hq _ rfl
  cases hp with
  | mk hk ht hc hs hi hl hd hr ho hx =>
  rename_i k t c s i l d r o x
  repeat' first
    | (refine Go.mk ?_; conv => whnf)
    | refine Need.go ?_ ?_
    | refine NilG.go (fun _ => ?_) (fun _ => ?_)
    | refine Br.dec (fun _ => ?_) (fun _ => ?_)
    | refine Br.go (fun _ => ?_) (fun _ => ?_)
    | refine draw_go hT hP mixed ?_
    | refine round_go hT hP ?_
  all_goals first
    | exact of_decide_eq_true rfl
    | (refine .mk [] [] _ rfl rfl rfl rfl rfl rfl (imm_int ?_)
       show IntKind.i64.wrap (IntKind.i64.wrap (IntKind.i64.wrap (IntKind.i64.wrap (k - 1) * 256) + IntKind.i64.wrap (IntKind.i64.wrap (IntKind.i64.wrap (t * 4) + s) * 16)) + i) = atI k t s i
       rw [w64 (x := k - 1) (by omega) (by omega), w64 (x := t * 4) (by omega) (by omega), w64 (x := (k - 1) * 256) (by omega) (by omega), w64 (x := t * 4 + s) (by omega) (by omega), w64 (x := (t * 4 + s) * 16) (by omega) (by omega),
         w64 (x := (k - 1) * 256 + (t * 4 + s) * 16) (by omega) (by omega), w64 (by omega) (by omega)]
       unfold atI; omega)
    | skip

def ownsD : List V1 → List Blk → Option DS := fun a b => (match a, b with | [.c (.own 0), .c (.own 1)], [.arr (.int .i64) l, .arr (.int .u8) m] => some (l, m) | _, _ => none)
theorem ownsD_ok {a : List V1} {b : List Blk} {x : DS} (h : ownsD a b = some x) : a = [.c (.own 0), .c (.own 1)] ∧ b = [.arr (.int .i64) x.1, .arr (.int .u8) x.2] := by
  unfold ownsD at h
  split at h
  · injection h with h; subst h; exact ⟨rfl, rfl⟩
  · cases h
theorem atI_w {k t s i : Int} (h : -256 ≤ atI k t s i ∧ atI k t s i < 65536) : IntKind.i64.wrap (atI k t s i) = atI k t s i := w64 (by omega) (by omega)
theorem pl_eq (k t c s i l d r o x : Int) : placeDF [k, t, c, s, i, l, d, r, o, x] = atI k t s i := rfl
theorem toI_drive {c t : Int} (ht : 0 ≤ t ∧ t < 4) (hc : c = 1 ∨ c = 2) : imax 0 (imin (IntKind.i64.wrap (IntKind.i64.wrap (t + 3) - IntKind.i64.wrap (2 * c))) 3) = toI c t := by
  rw [w64 (x := t + 3) (by omega) (by omega), w64 (x := 2 * c) (by omega) (by omega), w64 (by omega) (by omega)]
  unfold toI imax imin
  (repeat' split) <;> omega
def doneS : WSpec := ⟨DS, fun _ => [.c (.own 0), .c (.own 1)], fun s => [.arr (.int .i64) s.1, .arr (.int .u8) s.2], ownsD,
  fun s => (some ((∃ q, DOk q s) ∧ canDo s), .tup [], [some (.arr (.int .i64) (doneF s).1), some (.arr (.int .u8) (doneF s).2)], [])⟩
set_option maxHeartbeats 8000000 in
theorem done_ok : GoodF Try.prog 178 doneS.spec := by
  have hT := tab_ok (fs := [(200, placeDS.spec)]) tree_ok
  have hP : SpecsOk Try.prog (tab tree [(200, placeDS.spec)]) := specs_cons placeD_ok specs_nil
  refine doneS.good (fn := Try.f178) hT hP Try.func178 (by kernel_rfl) rfl (fun _ _ _ h => ownsD_ok h) fun ((l, m) : DS) hq => ?_
  obtain ⟨⟨q, hn, hm, hu⟩, hc1, hc2, hc3⟩ : (∃ q, DOk q (l, m)) ∧ canDo (l, m) := hq _ rfl
  have hm : m.length = q * 256 := hm
  have hu : u8s m := hu
  have hn : dOk q l := hn
  cases hn with
  | mk hk ht hc hs hi hl hd hr ho hx =>
  rename_i k t c s i l d r o x
  have hc1 : 0 < c := hc1
  have hc2 : 2 < c → 0 < k := hc2
  have hc3 : l = 0 := hc3
  subst hc3
  have hb := u8s_get hu (atI k t s i).toNat
  have hb : 0 ≤ m.getD (atI k t s i).toNat 0 ∧ m.getD (atI k t s i).toNat 0 < 256 := hb
  have hor := or1 ho hr
  have hoo : 0 ≤ lor .i64 o r ∧ lor .i64 o r < 2 := by rw [hor]; split <;> omega
  have hn1 : dOk q [k, t, c, s, i, 0, d, r, lor .i64 o r, x] := ⟨hk, ht, hc, hs, hi, by omega, hd, hr, hoo, hx⟩
  have hat : 0 < k → 0 ≤ atI k t s i ∧ atI k t s i < (m.length : Int) := fun h => by rw [hm]; exact atI_in ⟨h, hk.2.1⟩ ht hs hi
  have ewi : IntKind.i64.wrap (i + 1) = i + 1 := w64 (by omega) (by omega)
  have ewd := wrap8b hd
  have ewb : IntKind.i64.wrap (m.getD (atI k t s i).toNat 0) = m.getD (atI k t s i).toNat 0 := w64 (by omega) (by omega)
  have ep : placeDF [k, t, c, s, i, 0, d, r, lor .i64 o r, x] = atI k t s i := rfl
  repeat' first
    | (refine Go.mk ?_; conv => whnf)
    | refine Need.go ?_ ?_
    | refine NilG.go (fun _ => ?_) (fun _ => ?_)
    | refine Br.dec (fun _ => ?_) (fun _ => ?_)
    | refine Br.go (fun _ => ?_) (fun _ => ?_)
    | refine draw_go hT hP mixed ?_
    | refine round_go hT hP ?_
  all_goals first
    | exact of_decide_eq_true rfl
    | exact ⟨q, hn1⟩
    | skip
  all_goals (try refine .mk [] [0, 1] _ rfl rfl rfl rfl rfl (blk_d ?_ ?_) rfl)
  all_goals clear hT hP hq
  all_goals (simp only [castL_eq] at *)
  all_goals (simp only [Int.reduceToNat, List.set_cons_succ, List.set_cons_zero, List.getD_cons_succ, List.getD_cons_zero, pl_eq] at *)
  all_goals (try simp only [pl_eq, hor, ewi, ewd] at *)
  all_goals (try exact hat (hc2 (by omega)))
  all_goals (try (have := hat (hc2 (by omega)); omega))
  all_goals (try rw [toI_drive ht (by omega)])
  all_goals (try simp_all [doneF])
  all_goals (rw [if_neg (show ¬ c < 3 by omega)])

def turnsS : WSpec := ⟨DS, fun _ => [.c (.own 0), .c (.own 1)], fun s => [.arr (.int .i64) s.1, .arr (.int .u8) s.2], ownsD,
  fun s => (some ((∃ q, DOk q s) ∧ 0 < s.1.getD 2 0), .tup [], [some (.arr (.int .i64) (turnF s).1), some (.arr (.int .u8) (turnF s).2)], [])⟩
theorem toI_ref {c t : Int} (ht : 0 ≤ t ∧ t < 4) (hc : c = 1 ∨ c = 2) : IntKind.i64.wrap (t + [1, -1].getD (c - 1).toNat (dflt (.int .i64))) = if c = 1 then t + 1 else t - 1 := by
  rcases hc with rfl | rfl
  · show IntKind.i64.wrap (t + 1) = _
    rw [w64 (by omega) (by omega)]; rfl
  · show IntKind.i64.wrap (t + -1) = _
    rw [w64 (by omega) (by omega)]; rfl
set_option maxHeartbeats 8000000 in
theorem turns_ok : GoodF Try.prog 119 turnsS.spec := by
  have hT := tab_ok (fs := []) tree_ok
  have hP : SpecsOk Try.prog (tab tree []) := specs_nil
  refine turnsS.good (fn := Try.f119) hT hP Try.func119 (by kernel_rfl) rfl (fun _ _ _ h => ownsD_ok h) fun ((l, m) : DS) hq => ?_
  obtain ⟨⟨q, hn, hm, hu⟩, hc1⟩ : (∃ q, DOk q (l, m)) ∧ 0 < l.getD 2 0 := hq _ rfl
  have hm : m.length = q * 256 := hm
  have hu : u8s m := hu
  have hn : dOk q l := hn
  cases hn with
  | mk hk ht hc hs hi hl hd hr ho hx =>
  rename_i k t c s i l d r o x
  have hc1 : 0 < c := hc1
  have hb := u8s_get hu (atI k t s i).toNat
  have hb : 0 ≤ m.getD (atI k t s i).toNat 0 ∧ m.getD (atI k t s i).toNat 0 < 256 := hb
  have hat : 0 < k → 0 ≤ atI k t s i ∧ atI k t s i < (m.length : Int) := fun h => by rw [hm]; exact atI_in ⟨h, hk.2.1⟩ ht hs hi
  have ewi : IntKind.i64.wrap (i + 1) = i + 1 := w64 (by omega) (by omega)
  have ewb : IntKind.i64.wrap (m.getD (atI k t s i).toNat 0) = m.getD (atI k t s i).toNat 0 := w64 (by omega) (by omega)
  have ewd := wrap8b hd
  have hA := at_turn ⟨hk.1, hk.2.2⟩ ht hs hi
  have ewl : l > 1 → IntKind.i64.wrap (l - 1) = l - 1 := fun h => w64 (by omega) (by omega)
  have ewc : IntKind.i64.wrap (c - 1) = c - 1 := w64 (by omega) (by omega)
  have etr : c < 3 → IntKind.i64.wrap (t + [1, -1].getD (c - 1).toNat (dflt (.int .i64))) = if c = 1 then t + 1 else t - 1 := fun h => toI_ref ht (by omega)
  repeat' first
    | (refine Go.mk ?_; conv => whnf)
    | refine Need.go ?_ ?_
    | refine NilG.go (fun _ => ?_) (fun _ => ?_)
    | refine Br.dec (fun _ => ?_) (fun _ => ?_)
    | refine Br.go (fun _ => ?_) (fun _ => ?_)
    | refine draw_go hT hP mixed ?_
    | refine round_go hT hP ?_
  all_goals first
    | exact of_decide_eq_true rfl
    | skip
  all_goals (try refine .mk [] [0, 1] _ rfl rfl rfl rfl rfl (blk_d ?_ ?_) rfl)
  all_goals clear hT hP hq
  all_goals (simp only [castL_eq] at *)
  all_goals (simp only [Int.reduceToNat, List.set_cons_succ, List.set_cons_zero, List.getD_cons_succ, List.getD_cons_zero] at *)
  all_goals (try simp only [hA, ewi, ewd, ewc] at *)
  all_goals (try (simp only [List.length_cons, List.length_nil]; omega))
  all_goals (try exact hat (by omega))
  all_goals (try (have := hat (by omega); omega))
  all_goals (try (have h3 : ¬ c < 3 := by assumption))
  all_goals (try simp_all [-List.getD_eq_getElem?_getD, turnF, doneF])
  all_goals (try unfold toI)
  all_goals (try (by_cases h1 : c = 1 <;> simp only [h1, if_true, if_false] at *))
  all_goals (repeat' split)
  all_goals first
    | rfl
    | (exfalso; omega)
    | exact l10 rfl rfl rfl rfl rfl rfl ewb rfl rfl rfl
    | exact l10 rfl (by omega) rfl rfl rfl rfl rfl rfl rfl rfl
    | skip
  all_goals trace_state

end Go.Proofs.Ytblnigjmcjpopaa

/- The chip that reads and writes disks: cycles, both ways. -/
namespace Go.Proofs.Ytblnigjmcjpopaa
open Go.Fw
set_option linter.unusedVariables false
set_option linter.unusedSimpArgs false
set_option maxRecDepth 100000

theorem turn0_m {l : List Int} (h : dOk 0 l) : (turnF (l, [])).2 = [] := by
  cases h with
  | mk hk ht hc hs hi hl hd hr ho hx =>
  rename_i k t c s i l d r o x
  rw [turnF]
  by_cases h1 : c > 0
  · rw [if_pos h1]
    by_cases h2 : c > 2 ∧ k = 0
    · rw [if_pos h2]
    · rw [if_neg h2]
      by_cases h3 : l > 1
      · rw [if_pos h3]
      · rw [if_neg h3, doneF_lt (by omega)]
  · rw [if_neg h1]
def ownsR : List V1 → List Blk → Option (List Int) := fun a b => (match a, b with | [.c (.own 0), .c (.ro (.int .u8) [])], [.arr (.int .i64) l] => some l | _, _ => none)
theorem ownsR_ok {a : List V1} {b : List Blk} {x : List Int} (h : ownsR a b = some x) : a = [.c (.own 0), .c (.ro (.int .u8) [])] ∧ b = [.arr (.int .i64) x] := by
  unfold ownsR at h
  split at h
  · injection h with h; subst h; exact ⟨rfl, rfl⟩
  · cases h
def turns0S : WSpec := ⟨List Int, fun _ => [.c (.own 0), .c (.ro (.int .u8) [])], fun s => [.arr (.int .i64) s], ownsR,
  fun s => (some (dOk 0 s ∧ 0 < s.getD 2 0), .tup [], [some (.arr (.int .i64) (turnF (s, [])).1)], [])⟩
set_option maxHeartbeats 8000000 in
theorem turns0_ok : GoodF Try.prog 119 turns0S.spec := by
  have hT := tab_ok (fs := []) tree_ok
  have hP : SpecsOk Try.prog (tab tree []) := specs_nil
  refine turns0S.good (fn := Try.f119) hT hP Try.func119 (by kernel_rfl) rfl (fun _ _ _ h => ownsR_ok h) fun (l : List Int) hq => ?_
  obtain ⟨hn, hc1⟩ : dOk 0 l ∧ 0 < l.getD 2 0 := hq _ rfl
  cases hn with
  | mk hk ht hc hs hi hl hd hr ho hx =>
  rename_i k t c s i l d r o x
  have hc1 : 0 < c := hc1
  obtain rfl : k = 0 := by omega
  have ewl : l > 1 → IntKind.i64.wrap (l - 1) = l - 1 := fun h => w64 (by omega) (by omega)
  have ewc : IntKind.i64.wrap (c - 1) = c - 1 := w64 (by omega) (by omega)
  have gz0 : [1, -1].getD (IntKind.i64.wrap (1 - 1)).toNat (dflt (.int .i64)) = 1 := rfl
  have gz1 : [1, -1].getD (IntKind.i64.wrap (2 - 1)).toNat (dflt (.int .i64)) = -1 := rfl
  have ewt : IntKind.i64.wrap (t + 1) = t + 1 := w64 (by omega) (by omega)
  have ewt2 : IntKind.i64.wrap (t + -1) = t - 1 := by rw [w64 (by omega) (by omega)]; omega
  by_cases hc3 : c < 3
  · have hc2 : c = 1 ∨ c = 2 := by omega
    rcases hc2 with rfl | rfl
    all_goals
      repeat' first
        | (refine Go.mk ?_; conv => whnf)
        | refine Need.go ?_ ?_
        | refine NilG.go (fun _ => ?_) (fun _ => ?_)
        | refine Br.dec (fun _ => ?_) (fun _ => ?_)
        | refine Br.go (fun _ => ?_) (fun _ => ?_)
        | refine draw_go hT hP mixed ?_
        | refine round_go hT hP ?_
      all_goals first
        | exact of_decide_eq_true rfl
        | skip
      all_goals (try refine .mk [] [0] _ rfl rfl rfl rfl rfl (blk_eqs ?_) rfl)
      all_goals clear hT hP hq
      all_goals (try simp only [castL_eq] at *)
      all_goals (simp only [Int.reduceToNat, List.set_cons_succ, List.set_cons_zero, List.getD_cons_succ, List.getD_cons_zero, gz0, gz1, ewt, ewt2] at *)
      all_goals (simp_all [turnF, doneF, toI])
      all_goals ((repeat' split) <;> first | rfl | (exfalso; omega))
  · have hc2 : c = 3 ∨ c = 4 := by omega
    rcases hc2 with rfl | rfl
    all_goals
      repeat' first
        | (refine Go.mk ?_; conv => whnf)
        | refine Need.go ?_ ?_
        | refine NilG.go (fun _ => ?_) (fun _ => ?_)
        | refine Br.dec (fun _ => ?_) (fun _ => ?_)
        | refine Br.go (fun _ => ?_) (fun _ => ?_)
        | refine draw_go hT hP mixed ?_
        | refine round_go hT hP ?_
      all_goals first
        | exact of_decide_eq_true rfl
        | skip
      all_goals (try refine .mk [] [0] _ rfl rfl rfl rfl rfl (blk_eqs ?_) rfl)
      all_goals clear hT hP hq
      all_goals (try simp only [castL_eq] at *)
      all_goals (simp only [Int.reduceToNat, List.set_cons_succ, List.set_cons_zero, List.getD_cons_succ, List.getD_cons_zero, gz0, gz1, ewt, ewt2] at *)
      all_goals (simp_all [turnF, doneF, toI])

theorem dOkN (N : List Int) (q : Nat) : dOk q (dN N q) := dN_ok N q
theorem u8s_take {M : List Int} (h : u8s M) (n : Nat) : u8s (M.take n) := fun x hx => h x (List.mem_of_mem_take hx)
theorem dM_u8 {M : List Int} (h : u8s M) : u8s (dM M) := u8s_take h _
theorem DOkN (N : List Int) {M : List Int} (h : u8s M) : DOk (qF M) (dN N (qF M), dM M) := ⟨dN_ok N _, dM_len M, dM_u8 h⟩
theorem turn_zero {l m : List Int} (h : l.length = 10) (hc : ¬ l.getD 2 0 > 0) : turnF (l, m) = (l, m) := by
  match l, h with
  | [k, t, c, s, i, l, d, r, o, x], _ =>
    rw [turnF]
    exact if_neg hc
def dtickedR0S : PSpec := ⟨[gC, gD], fun (c, d, _) => (some (c.2.1 = 8 ∧ List.length d.2 ≤ 140737488355328 ∧ qF d.2 = 0), .agg [.own 0, .ro (.int .u8) []], [.arr (.int .i64) (turnF (dN d.1 (qF d.2), [])).1])⟩
theorem dtickedR0_ok : GoodF Try.prog 55 dtickedR0S.spec := by
  have hT := tab_ok (fs := [(54, dformedR0S.spec), (119, turns0S.spec)]) tree_ok
  have hP : SpecsOk Try.prog (tab tree [(54, dformedR0S.spec), (119, turns0S.spec)]) := specs_cons dformedR0_ok (specs_cons turns0_ok specs_nil)
  refine dtickedR0S.good (fn := Try.f55) hT hP Try.func55 (by kernel_rfl) rfl fun (c : Cv) (d : Dv) hp => ?_
  obtain ⟨cn, ck, cb, cs, cd⟩ := c
  obtain ⟨N, M⟩ := d
  obtain ⟨rfl, hl, h0⟩ : ck = 8 ∧ M.length ≤ 140737488355328 ∧ qF M = 0 := hp _ rfl
  have hn : dOk 0 (dN N (qF M)) := by rw [h0]; exact dN_ok N 0
  clear hp
  repeat' first
    | (refine Go.mk ?_; conv => whnf)
    | refine Need.go ?_ ?_
    | refine NilG.go (fun _ => ?_) (fun _ => ?_)
    | refine Br.dec (fun _ => ?_) (fun _ => ?_)
    | refine Br.go (fun _ => ?_) (fun _ => ?_)
    | refine draw_go hT hP mixed ?_
    | refine round_go hT hP ?_
  all_goals first
    | exact ⟨rfl, hl, h0⟩
    | exact of_decide_eq_true rfl
    | skip
  · rename_i h
    exact ⟨hn, h⟩
  · exact .mk [] [3] _ rfl rfl rfl rfl rfl (blk_eqs (by show _ = (turnF (dN N (qF M), [])).1; rfl)) rfl
  · rename_i h
    exact .mk [] [3] _ rfl rfl rfl rfl rfl (blk_eqs (congrArg Prod.fst (turn_zero (l := dN N (qF M)) (m := []) rfl h)).symm) rfl

def dtickedR1S : PSpec := ⟨[gC, gD], fun (c, d, _) => (some (c.2.1 = 8 ∧ List.length d.2 ≤ 140737488355328 ∧ 0 < qF d.2 ∧ u8s d.2), .agg [.own 0, .ro (.int .u8) (turnF (dN d.1 (qF d.2), dM d.2)).2], [.arr (.int .i64) (turnF (dN d.1 (qF d.2), dM d.2)).1])⟩
theorem dtickedR1_ok : GoodF Try.prog 55 dtickedR1S.spec := by
  have hT := tab_ok (fs := [(54, dformed1S.spec), (119, turnsS.spec)]) tree_ok
  have hP : SpecsOk Try.prog (tab tree [(54, dformed1S.spec), (119, turnsS.spec)]) := specs_cons dformed1_ok (specs_cons turns_ok specs_nil)
  refine dtickedR1S.good (fn := Try.f55) hT hP Try.func55 (by kernel_rfl) rfl fun (c : Cv) (d : Dv) hp => ?_
  obtain ⟨cn, ck, cb, cs, cd⟩ := c
  obtain ⟨N, M⟩ := d
  obtain ⟨rfl, hl, h0, hu⟩ : ck = 8 ∧ M.length ≤ 140737488355328 ∧ 0 < qF M ∧ u8s M := hp _ rfl
  have hn := DOkN N hu
  clear hp
  repeat' first
    | (refine Go.mk ?_; conv => whnf)
    | refine Need.go ?_ ?_
    | refine NilG.go (fun _ => ?_) (fun _ => ?_)
    | refine Br.dec (fun _ => ?_) (fun _ => ?_)
    | refine Br.go (fun _ => ?_) (fun _ => ?_)
    | refine draw_go hT hP mixed ?_
    | refine round_go hT hP ?_
  all_goals first
    | exact ⟨rfl, hl, h0⟩
    | exact of_decide_eq_true rfl
    | skip
  · rename_i h
    exact ⟨⟨_, hn⟩, h⟩
  · exact .mk [4] [3] _ rfl rfl rfl rfl rfl (blk_eqs rfl) (agg_ro rfl)
  · rename_i h
    exact .mk [4] [3] _ rfl rfl rfl rfl rfl (blk_eqs (congrArg Prod.fst (turn_zero (l := dN N (qF M)) (m := dM M) rfl h)).symm) (agg_ro (congrArg Prod.snd (turn_zero (l := dN N (qF M)) (m := dM M) rfl h)).symm)

def dtickedS : PSpec := ⟨[gC, gD], fun (c, d, _) => (some (c.2.1 = 8 ∧ List.length d.2 ≤ 140737488355328 ∧ u8s d.2), .agg [.own 0, .ro (.int .u8) (turnF (dN d.1 (qF d.2), dM d.2)).2], [.arr (.int .i64) (turnF (dN d.1 (qF d.2), dM d.2)).1])⟩
theorem dticked_ok : GoodF Try.prog 55 dtickedS.spec := by
  refine GoodF.cases dtickedR0_ok dtickedR1_ok fun (c, d, _) hp => ?_
  obtain ⟨hk, hl, hu⟩ : c.2.1 = 8 ∧ List.length d.2 ≤ 140737488355328 ∧ u8s d.2 := hp _ rfl
  by_cases h : qF d.2 = 0
  · left
    refine ⟨fun q hq => ?_, ?_⟩
    · injection hq with hq
      subst hq
      exact ⟨hk, hl, h⟩
    · have e : dM d.2 = [] := by unfold dM; rw [h]; rfl
      have hn : dOk 0 (dN d.1 (qF d.2)) := by rw [h]; exact dN_ok _ 0
      show (AV.agg [.own 0, .ro (.int .u8) []], [Blk.arr (.int .i64) (turnF (dN d.1 (qF d.2), [])).1]) = (AV.agg [.own 0, .ro (.int .u8) (turnF (dN d.1 (qF d.2), dM d.2)).2], [Blk.arr (.int .i64) (turnF (dN d.1 (qF d.2), dM d.2)).1])
      rw [e, turn0_m hn]
  · right
    refine ⟨fun q hq => ?_, rfl⟩
    injection hq with hq
    subst hq
    exact ⟨hk, hl, Nat.pos_of_ne_zero h, hu⟩

def skipD (k : Int) (s : DS) : DS := iterA turnF k.toNat s
def dskipS : PSpec := ⟨[gD, gi], fun (d, k, _) => (some (List.length d.2 ≤ 140737488355328 ∧ u8s d.2 ∧ k ≤ 1500), .agg [.own 0, .own 1], [.arr (.int .i64) (skipD k (dN d.1 (qF d.2), dM d.2)).1, .arr (.int .u8) (skipD k (dN d.1 (qF d.2), dM d.2)).2])⟩
set_option maxHeartbeats 8000000 in
theorem dskip_ok : GoodF Try.prog 127 dskipS.spec := by
  have hT := tab_ok (fs := [(177, dfitS.spec), (178, doneS.spec)]) tree_ok
  have hP : SpecsOk Try.prog (tab tree [(177, dfitS.spec), (178, doneS.spec)]) := specs_cons dfit_ok (specs_cons done_ok specs_nil)
  refine dskipS.good (fn := Try.f127) hT hP Try.func127 (by kernel_rfl) rfl fun (d : Dv) (k : Int) hp => ?_
  obtain ⟨N, M⟩ := d
  obtain ⟨hl, hu, hk⟩ : M.length ≤ 140737488355328 ∧ u8s M ∧ k ≤ 1500 := hp _ rfl
  have hn := DOkN N hu
  clear hp
  repeat' first
    | (refine Go.mk ?_; conv => whnf)
    | refine Need.go ?_ ?_
    | refine NilG.go (fun _ => ?_) (fun _ => ?_)
    | refine Br.dec (fun _ => ?_) (fun _ => ?_)
    | refine Br.go (fun _ => ?_) (fun _ => ?_)
    | refine draw_go hT hP mixed ?_
    | refine round_go hT hP ?_
  all_goals first
    | exact hl
    | exact of_decide_eq_true rfl
    | skip
  refine loop_go hT hP (X := Int × DS) (fun (n, s) => St.mk [.dead, I n, .dead, .dead, .cell (.ptr 0 0), .cell (.own 1), .cell (.own 2), .dead, .dead, .dead, .dead, .dead, .dead, .dead, .dead, .dead, .dead, .dead, .dead, .dead, .dead, .dead, .dead, .dead, .dead, .dead, .dead, .dead, .dead, .dead, .dead, .dead, .dead, .dead, .dead, .dead, .dead, .dead, .dead, .dead, .dead, .dead, .dead, .dead, .dead, .dead, .dead, .dead, .dead, .dead, .dead, .dead, .dead, .dead, .dead, .dead, .dead] [some (.var [.imm (.slice none 0 0), .imm (.slice none 0 0)]), some (.arr (.int .i64) s.1), some (.arr (.int .u8) s.2)])
    (fun (n, s) => DOk (qF M) s ∧ iterA turnF n.toNat s = skipD k (dN N (qF M), dM M) ∧ n ≤ 1500) (fun (n, _) => n.toNat) (k, (dN N (qF M), dM M)) (Le.mk [] [1, 2, 3] rfl rfl ?_ ?_) ?_ fun (n, s) hi => ?_
  · exact rfl
  · repeat' first | exact trivial | exact ⟨rfl, rfl⟩ | refine And.intro ?_ ?_
  · exact ⟨hn, rfl, hk⟩
  obtain ⟨l, m⟩ := s
  obtain ⟨⟨hn', hm', hu'⟩, he, hk'⟩ := hi
  have hm' : m.length = qF M * 256 := hm'
  have hu' : u8s m := hu'
  have hn' : dOk (qF M) l := hn'
  have hD : DOk (qF M) (l, m) := ⟨hn', hm', hu'⟩
  cases hn' with
  | mk hk ht hc hs hi hl hd hr ho hx =>
  rename_i k t c s i l d r o x
  repeat' first
    | (refine Go.mk ?_; conv => whnf)
    | refine Need.go ?_ ?_
    | refine NilG.go (fun _ => ?_) (fun _ => ?_)
    | refine Br.dec (fun _ => ?_) (fun _ => ?_)
    | refine Br.go (fun _ => ?_) (fun _ => ?_)
    | refine draw_go hT hP mixed ?_
    | refine round_go hT hP ?_
  all_goals first
    | exact of_decide_eq_true rfl
    | skip
  all_goals clear hT hP
  all_goals (try simp only [castL_eq] at *)
  all_goals (try simp only [Int.reduceToNat, List.set_cons_succ, List.set_cons_zero, List.getD_cons_succ, List.getD_cons_zero] at *)
  · rename_i h1 h2 h3 h4
    have e := (skip_none (t := t) (s := s) (i := i) (l := l) (d := d) (r := r) (o := o) (x := x) (m := m) (c := c) (k := k) (n := n.toNat) (by omega) h4 (by omega)).symm.trans he
    exact .mk [] [1, 2] _ rfl rfl rfl rfl rfl (blk_d (congrArg Prod.fst e) (congrArg Prod.snd e)) rfl
  · rename_i h1 h2 h3 h4 h5
    have e := (skip_wait (t := t) (s := s) (i := i) (d := d) (r := r) (o := o) (x := x) (m := m) (c := c) (k := k) h2 (fun h => h4 h.2) n.toNat l (by omega)).symm.trans he
    rw [show l - (n.toNat : Int) = IntKind.i64.wrap (l - n) by rw [w64 (by omega) (by omega)]; omega] at e
    exact .mk [] [1, 2] _ rfl rfl rfl rfl rfl (blk_d (congrArg Prod.fst e) (congrArg Prod.snd e)) rfl
  · rename_i h1 h2 h3 h4 h5
    exact ⟨⟨qF M, ⟨hk, ht, hc, hs, hi, by omega, hd, hr, ho, hx⟩, hm', hu'⟩, h2, fun _ => by show 0 < k; omega, rfl⟩
  · rename_i h1 h2 h3 h4 h5
    have hd0 : DOk (qF M) ([k, t, c, s, i, 0, d, r, o, x], m) := ⟨⟨hk, ht, hc, hs, hi, by omega, hd, hr, ho, hx⟩, hm', hu'⟩
    have e := (skip_done (t := t) (s := s) (i := i) (l := l) (d := d) (r := r) (o := o) (x := x) (m := m) (c := c) (k := k) (n := n.toNat) h2 (fun h => h4 h.2) hl.1 (by omega) (by omega)).symm.trans he
    have e2 : IntKind.i64.wrap (n - imax 1 l) = (n.toNat : Int) - max 1 l := by rw [imax_eq, w64 (by omega) (by omega)]; omega
    apply Exists.intro (_, _, _)
    refine And.intro ?_ (And.intro ?_ (Le.mk [] [0, 1, 2] rfl rfl ?hh ?ht))
    case hh => exact rfl
    case ht => repeat' first | exact trivial | exact ⟨rfl, rfl⟩ | refine And.intro ?_ ?_
    · refine ⟨doneF_ok hd0, ?_, ?_⟩
      · show iterA turnF (IntKind.i64.wrap (n - imax 1 l)).toNat (doneF ([k, t, c, s, i, 0, d, r, o, x], m)) = _
        rw [e2]; exact e
      · show IntKind.i64.wrap (n - imax 1 l) ≤ 1500
        rw [e2]; omega
    · show (IntKind.i64.wrap (n - imax 1 l)).toNat < n.toNat
      rw [e2]; omega
  · rename_i h1 h2 h3 h4
    have e := (skip_wait (t := t) (s := s) (i := i) (d := d) (r := r) (o := o) (x := x) (m := m) (c := c) (k := k) h2 (fun h => h3 (by omega)) n.toNat l (by omega)).symm.trans he
    rw [show l - (n.toNat : Int) = IntKind.i64.wrap (l - n) by rw [w64 (by omega) (by omega)]; omega] at e
    exact .mk [] [1, 2] _ rfl rfl rfl rfl rfl (blk_d (congrArg Prod.fst e) (congrArg Prod.snd e)) rfl
  · rename_i h1 h2 h3 h4
    exact ⟨⟨qF M, ⟨hk, ht, hc, hs, hi, by omega, hd, hr, ho, hx⟩, hm', hu'⟩, h2, fun h => absurd h (by show ¬ 2 < c; omega), rfl⟩
  · rename_i h1 h2 h3 h5
    have hd0 : DOk (qF M) ([k, t, c, s, i, 0, d, r, o, x], m) := ⟨⟨hk, ht, hc, hs, hi, by omega, hd, hr, ho, hx⟩, hm', hu'⟩
    have e := (skip_done (t := t) (s := s) (i := i) (l := l) (d := d) (r := r) (o := o) (x := x) (m := m) (c := c) (k := k) (n := n.toNat) h2 (fun h => h3 (by omega)) hl.1 (by omega) (by omega)).symm.trans he
    have e2 : IntKind.i64.wrap (n - imax 1 l) = (n.toNat : Int) - max 1 l := by rw [imax_eq, w64 (by omega) (by omega)]; omega
    apply Exists.intro (_, _, _)
    refine And.intro ?_ (And.intro ?_ (Le.mk [] [0, 1, 2] rfl rfl ?hh ?ht))
    case hh => exact rfl
    case ht => repeat' first | exact trivial | exact ⟨rfl, rfl⟩ | refine And.intro ?_ ?_
    · refine ⟨doneF_ok hd0, ?_, ?_⟩
      · show iterA turnF (IntKind.i64.wrap (n - imax 1 l)).toNat (doneF ([k, t, c, s, i, 0, d, r, o, x], m)) = _
        rw [e2]; exact e
      · show IntKind.i64.wrap (n - imax 1 l) ≤ 1500
        rw [e2]; omega
    · show (IntKind.i64.wrap (n - imax 1 l)).toNat < n.toNat
      rw [e2]; omega
  · rename_i h1 h2
    have e := (skip_idle (t := t) (s := s) (i := i) (l := l) (d := d) (r := r) (o := o) (x := x) (m := m) (c := c) (k := k) h2 n.toNat).symm.trans he
    exact .mk [] [1, 2] _ rfl rfl rfl rfl rfl (blk_d (congrArg Prod.fst e) (congrArg Prod.snd e)) rfl
  · rename_i h1
    rw [show n.toNat = 0 by omega, iterA] at he
    exact .mk [] [1, 2] _ rfl rfl rfl rfl rfl (blk_d (congrArg Prod.fst he) (congrArg Prod.snd he)) rfl

def dtickS : PSpec := ⟨[gD], fun (d, _) => (some (List.length d.2 ≤ 140737488355328 ∧ u8s d.2), .agg [.own 0, .own 1], [.arr (.int .i64) (turnF (dN d.1 (qF d.2), dM d.2)).1, .arr (.int .u8) (turnF (dN d.1 (qF d.2), dM d.2)).2])⟩
end Go.Proofs.Ytblnigjmcjpopaa

/- bakeref1.Shade. -/
namespace Go.Proofs.Ytblnigjmcjpopaa
open Go.Fw
set_option linter.unusedVariables false
set_option linter.unusedSimpArgs false
set_option maxRecDepth 100000

theorem tup_ib2 {a c : Int} {b d : Bool} (h1 : a = c) (h2 : b = d) : AV.tup [I1 a, .c (bv b)] = AV.tup [I1 c, .c (bv d)] := by rw [h1, h2]
def shadeS : PSpec := ⟨[gb, gi], fun (m, pos, _) => (some (List.length m = 32 ∧ u8s m ∧ 0 ≤ pos ∧ pos < 2560), .tup [I1 (colorF m pos), .c (bv (hitB m pos))], [])⟩
theorem shade_ok : GoodF Try.prog 118 shadeS.spec := by
  have hT := tab_ok (fs := []) tree_ok
  have hP : SpecsOk Try.prog (tab tree []) := specs_nil
  refine shadeS.good (fn := Try.f118) hT hP Try.func118 (by kernel_rfl) rfl fun (m : List Int) (pos : Int) hp => ?_
  obtain ⟨hm, hu, hp0, hp1⟩ : m.length = 32 ∧ u8s m ∧ 0 ≤ pos ∧ pos < 2560 := hp _ rfl
  have hb := u8s_get hu
  have eq64 : IntKind.i64.wrap (Int.tdiv pos 64) = pos / 64 := by rw [Int.tdiv_eq_ediv_of_nonneg hp0, w64 (by omega) (by omega)]
  have er64 : Int.tmod pos 64 = pos % 64 := Int.tmod_eq_emod_of_nonneg hp0
  have ecell : IntKind.i64.wrap (IntKind.i64.wrap (8 + IntKind.i64.wrap (IntKind.i64.wrap (Int.tdiv (IntKind.i64.wrap (Int.tdiv pos 64)) 8) * 6)) + IntKind.i64.wrap (Int.tdiv (Int.tmod pos 64) 8)) = 8 + pos / 64 / 8 * 6 + pos % 64 / 8 := by
    rw [eq64, er64, Int.tdiv_eq_ediv_of_nonneg (show 0 ≤ pos / 64 by omega), Int.tdiv_eq_ediv_of_nonneg (show 0 ≤ pos % 64 by omega), w64 (x := pos / 64 / 8) (by omega) (by omega), w64 (x := pos / 64 / 8 * 6) (by omega) (by omega),
      w64 (x := 8 + pos / 64 / 8 * 6) (by omega) (by omega), w64 (x := pos % 64 / 8) (by omega) (by omega), w64 (by omega) (by omega)]
  repeat' first
    | (refine Go.mk ?_; conv => whnf)
    | refine Need.go ?_ ?_
    | refine NilG.go (fun _ => ?_) (fun _ => ?_)
    | refine Br.dec (fun _ => ?_) (fun _ => ?_)
    | refine Br.go (fun _ => ?_) (fun _ => ?_)
    | refine draw_go hT hP mixed ?_
    | refine round_go hT hP ?_
  all_goals first
    | decide
    | (rw [hm]; exact of_decide_eq_true rfl)
    | (rw [ecell, hm]; exact ⟨by omega, by omega⟩)
    | skip
  · rename_i h
    have h : Int.tmod pos 64 ≥ 48 := h
    rw [er64] at h
    have hv : visB pos = false := by unfold visB; rw [decide_eq_false (by omega : ¬ pos % 64 < 48)]; rfl
    refine .mk [] [] _ rfl rfl rfl rfl rfl rfl (tup_ib2 ?_ ?_)
    · show Int.tmod (IntKind.i64.wrap (bA m 0)) 16 = colorF m pos
      have h0 := hb 0
      rw [colorF, hv, if_neg (by simp), w64 (by omega) (by omega), Int.tmod_eq_emod_of_nonneg h0.1]
    · show false = hitB m pos
      rw [hitB, hv]; rfl
  · rename_i h1 h
    have h : IntKind.i64.wrap (Int.tdiv pos 64) ≥ 32 := h
    rw [eq64] at h
    have hv : visB pos = false := by unfold visB; rw [decide_eq_false (by omega : ¬ pos / 64 < 32), Bool.and_false]
    refine .mk [] [] _ rfl rfl rfl rfl rfl rfl (tup_ib2 ?_ ?_)
    · show Int.tmod (IntKind.i64.wrap (bA m 0)) 16 = colorF m pos
      have h0 := hb 0
      rw [colorF, hv, if_neg (by simp), w64 (by omega) (by omega), Int.tmod_eq_emod_of_nonneg h0.1]
    · show false = hitB m pos
      rw [hitB, hv]; rfl
  rename_i h1 h2
  have h1 : ¬ Int.tmod pos 64 ≥ 48 := h1
  have h2 : ¬ IntKind.i64.wrap (Int.tdiv pos 64) ≥ 32 := h2
  rw [er64] at h1
  rw [eq64] at h2
  have hv : visB pos = true := by unfold visB; rw [decide_eq_true (by omega : pos % 64 < 48), decide_eq_true (by omega : pos / 64 < 32)]; rfl
  have ecv : Int.tmod (IntKind.i64.wrap (bA m (IntKind.i64.wrap (IntKind.i64.wrap (8 + IntKind.i64.wrap (IntKind.i64.wrap (Int.tdiv (IntKind.i64.wrap (Int.tdiv pos 64)) 8) * 6)) + IntKind.i64.wrap (Int.tdiv (Int.tmod pos 64) 8))).toNat)) 16 = cellF m pos := by
    rw [ecell]
    have h0 := hb (8 + pos / 64 / 8 * 6 + pos % 64 / 8).toNat
    rw [w64 (by omega) (by omega), Int.tmod_eq_emod_of_nonneg h0.1]; rfl
  refine loop_go hT hP (X := Int) (fun i => St.mk [.cell (.ro (.int .u8) m), .dead, .dead, .dead, .dead, .dead, I (IntKind.i64.wrap (Int.tdiv pos 64)), I (Int.tmod pos 64), I (Int.tmod (IntKind.i64.wrap (bA m (IntKind.i64.wrap (IntKind.i64.wrap (8 + IntKind.i64.wrap (IntKind.i64.wrap (Int.tdiv (IntKind.i64.wrap (Int.tdiv pos 64)) 8) * 6)) + IntKind.i64.wrap (Int.tdiv (Int.tmod pos 64) 8))).toNat)) 16), .dead, .dead, .dead, .dead, .dead, .dead, .dead, .dead, .dead, .dead, .dead, .dead, .dead, .dead, .dead, .dead, .dead, .dead, .dead, .dead, .dead, .dead, .dead, .dead, .dead, .dead, .dead, .dead, I i, .dead, .dead, .dead, .dead, .dead, .dead, .dead, .dead, .dead, .dead, .dead, .dead, .dead, .dead, .dead, .dead, .dead, .dead, .dead, .dead, .dead, .dead, .dead, .dead, .dead, .dead, .dead, .dead, .dead, .dead, .dead, .dead, .dead, .dead, .dead, .dead, .dead, .dead, .dead, .dead, .dead, .dead, .dead, .dead] [])
    (fun i => ∃ k : Nat, i = k ∧ k ≤ 8 ∧ ∀ j, j < k → shadeB m pos j = false) (fun i => (8 - i).toNat) 0 (Le.mk [] [] rfl rfl ?_ ?_) ?_ fun i hi => ?_
  · exact rfl
  · repeat' first | exact trivial | exact ⟨rfl, rfl⟩ | refine And.intro ?_ ?_
  · exact ⟨0, rfl, by omega, fun j h => by omega⟩
  obtain ⟨k, rfl, hk, hno⟩ := hi
  have hb1 := hb 1
  have hb2 := hb 2
  have hb3 := hb 3
  have hb4 := hb 4
  have w1 : IntKind.i64.wrap (IntKind.i64.wrap (bA m 1) + k) = bA m 1 + k := by rw [w64 (x := bA m 1) (by omega) (by omega), w64 (by omega) (by omega)]
  have w2 : IntKind.i64.wrap (bA m 2) = bA m 2 := w64 (by omega) (by omega)
  have w3 : IntKind.i64.wrap (bA m 2 + 8) = bA m 2 + 8 := w64 (by omega) (by omega)
  repeat' first
    | (refine Go.mk ?_; conv => whnf)
    | refine Need.go ?_ ?_
    | refine NilG.go (fun _ => ?_) (fun _ => ?_)
    | refine Br.dec (fun _ => ?_) (fun _ => ?_)
    | refine Br.go (fun _ => ?_) (fun _ => ?_)
    | refine draw_go hT hP mixed ?_
    | refine round_go hT hP ?_
  all_goals first
    | decide
    | (rw [hm]; exact of_decide_eq_true rfl)
    | exact Int.natCast_nonneg _
    | skip
  · rename_i hlt g1 g2 g3 g4
    have g1 : Int.tmod pos 64 = IntKind.i64.wrap (IntKind.i64.wrap (bA m 1) + (k : Int)) := g1
    rw [er64, w1] at g1
    have g2 : IntKind.i64.wrap (Int.tdiv pos 64) ≥ IntKind.i64.wrap (bA m 2) := g2
    rw [eq64, w2] at g2
    have g3 : IntKind.i64.wrap (Int.tdiv pos 64) < IntKind.i64.wrap (IntKind.i64.wrap (bA m 2) + 8) := g3
    rw [eq64, w2, w3] at g3
    have g4 : shl .u8 (bA m 4) (k : Int) ≥ 128 := g4
    rw [byte_bitI hb4 (by omega)] at g4
    have hsp : spriteB m pos = true := sprite_yes (i := k) (by omega) (by
      unfold shadeB
      simp only [Bool.and_eq_true, decide_eq_true_eq]
      exact ⟨g1, ⟨g2, g3⟩, g4⟩)
    refine .mk [] [] _ rfl rfl rfl rfl rfl rfl (tup_ib2 ?_ ?_)
    · show Int.tmod (IntKind.i64.wrap (bA m 3)) 16 = colorF m pos
      rw [colorF, hv, if_pos rfl, hsp, if_pos rfl, w64 (by omega) (by omega), Int.tmod_eq_emod_of_nonneg hb3.1]
    · show decide (Int.tmod (IntKind.i64.wrap (bA m (IntKind.i64.wrap (IntKind.i64.wrap (8 + IntKind.i64.wrap (IntKind.i64.wrap (Int.tdiv (IntKind.i64.wrap (Int.tdiv pos 64)) 8) * 6)) + IntKind.i64.wrap (Int.tdiv (Int.tmod pos 64) 8))).toNat)) 16 > 0) = hitB m pos
      rw [hitB, hv, hsp, ecv]
      have h0 := cellF_in m pos
      show decide (cellF m pos > 0) = decide (cellF m pos ≠ 0)
      congr 1
      apply propext
      omega
  · rename_i hlt g1 g2 g3 g4
    have g1 : Int.tmod pos 64 = IntKind.i64.wrap (IntKind.i64.wrap (bA m 1) + (k : Int)) := g1
    rw [er64, w1] at g1
    have g2 : IntKind.i64.wrap (Int.tdiv pos 64) ≥ IntKind.i64.wrap (bA m 2) := g2
    rw [eq64, w2] at g2
    have g3 : IntKind.i64.wrap (Int.tdiv pos 64) < IntKind.i64.wrap (IntKind.i64.wrap (bA m 2) + 8) := g3
    rw [eq64, w2, w3] at g3
    have g4 : ¬ shl .u8 (bA m 4) (k : Int) ≥ 128 := g4
    rw [byte_bitI hb4 (by omega)] at g4
    have e : IntKind.i64.wrap ((k : Int) + 1) = ((k + 1 : Nat) : Int) := by rw [w64 (by omega) (by omega)]; omega
    have hsh : shadeB m pos k = false := by
      cases hs : shadeB m pos k with
      | false => rfl
      | true =>
        exfalso
        unfold shadeB at hs
        simp only [Bool.and_eq_true, decide_eq_true_eq] at hs
        obtain ⟨s1, ⟨s2, s3⟩, s4⟩ := hs
        first | exact g4 s4 | omega
    apply Exists.intro _
    refine And.intro ?_ (And.intro ?_ (Le.mk [] [] rfl rfl ?hh ?ht))
    case hh => exact rfl
    case ht => repeat' first | exact trivial | exact ⟨rfl, rfl⟩ | refine And.intro ?_ ?_
    · refine ⟨k + 1, e, by omega, fun j hj => ?_⟩
      by_cases hjk : j = k
      · rw [hjk]; exact hsh
      · exact hno j (by omega)
    · show (8 - IntKind.i64.wrap ((k : Int) + 1)).toNat < (8 - (k : Int)).toNat
      rw [e]; omega
  · rename_i hlt g1 g2 g3
    have g1 : Int.tmod pos 64 = IntKind.i64.wrap (IntKind.i64.wrap (bA m 1) + (k : Int)) := g1
    rw [er64, w1] at g1
    have g2 : IntKind.i64.wrap (Int.tdiv pos 64) ≥ IntKind.i64.wrap (bA m 2) := g2
    rw [eq64, w2] at g2
    have g3 : ¬ IntKind.i64.wrap (Int.tdiv pos 64) < IntKind.i64.wrap (IntKind.i64.wrap (bA m 2) + 8) := g3
    rw [eq64, w2, w3] at g3
    have e : IntKind.i64.wrap ((k : Int) + 1) = ((k + 1 : Nat) : Int) := by rw [w64 (by omega) (by omega)]; omega
    have hsh : shadeB m pos k = false := by
      cases hs : shadeB m pos k with
      | false => rfl
      | true =>
        exfalso
        unfold shadeB at hs
        simp only [Bool.and_eq_true, decide_eq_true_eq] at hs
        obtain ⟨s1, ⟨s2, s3⟩, s4⟩ := hs
        first | exact g3 s4 | omega
    apply Exists.intro _
    refine And.intro ?_ (And.intro ?_ (Le.mk [] [] rfl rfl ?hh ?ht))
    case hh => exact rfl
    case ht => repeat' first | exact trivial | exact ⟨rfl, rfl⟩ | refine And.intro ?_ ?_
    · refine ⟨k + 1, e, by omega, fun j hj => ?_⟩
      by_cases hjk : j = k
      · rw [hjk]; exact hsh
      · exact hno j (by omega)
    · show (8 - IntKind.i64.wrap ((k : Int) + 1)).toNat < (8 - (k : Int)).toNat
      rw [e]; omega
  · rename_i hlt g1 g2
    have g1 : Int.tmod pos 64 = IntKind.i64.wrap (IntKind.i64.wrap (bA m 1) + (k : Int)) := g1
    rw [er64, w1] at g1
    have g2 : ¬ IntKind.i64.wrap (Int.tdiv pos 64) ≥ IntKind.i64.wrap (bA m 2) := g2
    rw [eq64, w2] at g2
    have e : IntKind.i64.wrap ((k : Int) + 1) = ((k + 1 : Nat) : Int) := by rw [w64 (by omega) (by omega)]; omega
    have hsh : shadeB m pos k = false := by
      cases hs : shadeB m pos k with
      | false => rfl
      | true =>
        exfalso
        unfold shadeB at hs
        simp only [Bool.and_eq_true, decide_eq_true_eq] at hs
        obtain ⟨s1, ⟨s2, s3⟩, s4⟩ := hs
        first | exact g2 s4 | omega
    apply Exists.intro _
    refine And.intro ?_ (And.intro ?_ (Le.mk [] [] rfl rfl ?hh ?ht))
    case hh => exact rfl
    case ht => repeat' first | exact trivial | exact ⟨rfl, rfl⟩ | refine And.intro ?_ ?_
    · refine ⟨k + 1, e, by omega, fun j hj => ?_⟩
      by_cases hjk : j = k
      · rw [hjk]; exact hsh
      · exact hno j (by omega)
    · show (8 - IntKind.i64.wrap ((k : Int) + 1)).toNat < (8 - (k : Int)).toNat
      rw [e]; omega
  · rename_i hlt g1
    have g1 : ¬ Int.tmod pos 64 = IntKind.i64.wrap (IntKind.i64.wrap (bA m 1) + (k : Int)) := g1
    rw [er64, w1] at g1
    have e : IntKind.i64.wrap ((k : Int) + 1) = ((k + 1 : Nat) : Int) := by rw [w64 (by omega) (by omega)]; omega
    have hsh : shadeB m pos k = false := by
      cases hs : shadeB m pos k with
      | false => rfl
      | true =>
        exfalso
        unfold shadeB at hs
        simp only [Bool.and_eq_true, decide_eq_true_eq] at hs
        obtain ⟨s1, ⟨s2, s3⟩, s4⟩ := hs
        first | exact g1 s4 | omega
    apply Exists.intro _
    refine And.intro ?_ (And.intro ?_ (Le.mk [] [] rfl rfl ?hh ?ht))
    case hh => exact rfl
    case ht => repeat' first | exact trivial | exact ⟨rfl, rfl⟩ | refine And.intro ?_ ?_
    · refine ⟨k + 1, e, by omega, fun j hj => ?_⟩
      by_cases hjk : j = k
      · rw [hjk]; exact hsh
      · exact hno j (by omega)
    · show (8 - IntKind.i64.wrap ((k : Int) + 1)).toNat < (8 - (k : Int)).toNat
      rw [e]; omega
  · rename_i hlt
    obtain rfl : k = 8 := by omega
    have hsp : spriteB m pos = false := sprite_no hno
    refine .mk [] [] _ rfl rfl rfl rfl rfl rfl (tup_ib2 ?_ ?_)
    · show Int.tmod (IntKind.i64.wrap (bA m (IntKind.i64.wrap (IntKind.i64.wrap (8 + IntKind.i64.wrap (IntKind.i64.wrap (Int.tdiv (IntKind.i64.wrap (Int.tdiv pos 64)) 8) * 6)) + IntKind.i64.wrap (Int.tdiv (Int.tmod pos 64) 8))).toNat)) 16 = colorF m pos
      rw [colorF, hv, if_pos rfl, hsp, if_neg (by simp), ecv]
    · show false = hitB m pos
      rw [hitB, hv, hsp]; rfl

end Go.Proofs.Ytblnigjmcjpopaa

/- The chip that draws: the functions of package video that look at a picture. -/
namespace Go.Proofs.Ytblnigjmcjpopaa
open Go.Fw
set_option linter.unusedVariables false
set_option linter.unusedSimpArgs false
set_option maxRecDepth 100000

def visS : PSpec := ⟨[gi], fun (pos, _) => (some (0 ≤ pos ∧ pos < 2560), .cell (bv (visB pos)), [])⟩
theorem vis_ok : GoodF Try.prog 197 visS.spec := by
  have hT := tab_ok (fs := []) tree_ok
  have hP : SpecsOk Try.prog (tab tree []) := specs_nil
  refine visS.good (fn := Try.f197) hT hP Try.func197 (by kernel_rfl) rfl fun (pos : Int) hp => ?_
  have hp : 0 ≤ pos ∧ pos < 2560 := hp _ rfl
  have eq64 : IntKind.i64.wrap (Int.tdiv pos 64) = pos / 64 := by rw [Int.tdiv_eq_ediv_of_nonneg hp.1, w64 (by omega) (by omega)]
  have er64 : Int.tmod pos 64 = pos % 64 := Int.tmod_eq_emod_of_nonneg hp.1
  repeat' first
    | (refine Go.mk ?_; conv => whnf)
    | refine Need.go ?_ ?_
    | refine NilG.go (fun _ => ?_) (fun _ => ?_)
    | refine Br.dec (fun _ => ?_) (fun _ => ?_)
    | refine Br.go (fun _ => ?_) (fun _ => ?_)
    | refine draw_go hT hP mixed ?_
    | refine round_go hT hP ?_
  all_goals first
    | decide
    | (rename_i h
       have h : Int.tmod pos 64 < 48 := h
       rw [er64] at h
       refine .mk [] [] _ rfl rfl rfl rfl rfl rfl (imm_bool ?_)
       show decide (IntKind.i64.wrap (Int.tdiv pos 64) < 32) = (decide (pos % 64 < 48) && decide (pos / 64 < 32))
       rw [eq64, decide_eq_true h]; rfl)
    | (rename_i h
       have h : ¬ Int.tmod pos 64 < 48 := h
       rw [er64] at h
       refine .mk [] [] _ rfl rfl rfl rfl rfl rfl (imm_bool ?_)
       show false = (decide (pos % 64 < 48) && decide (pos / 64 < 32))
       rw [decide_eq_false h]; rfl)

def cellS : PSpec := ⟨[gb, gi], fun (m, pos, _) => (some (List.length m = 32 ∧ u8s m ∧ 0 ≤ pos ∧ pos < 2560 ∧ visB pos = true), I (cellF m pos), [])⟩
theorem cell_ok : GoodF Try.prog 199 cellS.spec := by
  have hT := tab_ok (fs := []) tree_ok
  have hP : SpecsOk Try.prog (tab tree []) := specs_nil
  refine cellS.good (fn := Try.f199) hT hP Try.func199 (by kernel_rfl) rfl fun (m : List Int) (pos : Int) hp => ?_
  obtain ⟨hm, hu, hp0, hp1, hv⟩ : m.length = 32 ∧ u8s m ∧ 0 ≤ pos ∧ pos < 2560 ∧ visB pos = true := hp _ rfl
  have hb := u8s_get hu
  unfold visB at hv
  simp only [Bool.and_eq_true, decide_eq_true_eq] at hv
  have ecell : IntKind.i64.wrap (IntKind.i64.wrap (8 + IntKind.i64.wrap (IntKind.i64.wrap (Int.tdiv (IntKind.i64.wrap (Int.tdiv pos 64)) 8) * 6)) + IntKind.i64.wrap (Int.tdiv (Int.tmod pos 64) 8)) = 8 + pos / 64 / 8 * 6 + pos % 64 / 8 := cell_at hp0 hp1
  repeat' first
    | (refine Go.mk ?_; conv => whnf)
    | refine Need.go ?_ ?_
    | refine NilG.go (fun _ => ?_) (fun _ => ?_)
    | refine Br.dec (fun _ => ?_) (fun _ => ?_)
    | refine Br.go (fun _ => ?_) (fun _ => ?_)
    | refine draw_go hT hP mixed ?_
    | refine round_go hT hP ?_
  all_goals first
    | decide
    | (rw [ecell, hm]; exact ⟨by omega, by omega⟩)
    | (refine .mk [] [] _ rfl rfl rfl rfl rfl rfl (imm_int ?_)
       show land .i64 (IntKind.i64.wrap (bA m (IntKind.i64.wrap (IntKind.i64.wrap (8 + IntKind.i64.wrap (IntKind.i64.wrap (Int.tdiv (IntKind.i64.wrap (Int.tdiv pos 64)) 8) * 6)) + IntKind.i64.wrap (Int.tdiv (Int.tmod pos 64) 8))).toNat)) 15 = cellF m pos
       rw [ecell, land15I (hb _)]; rfl)

def spriteS : PSpec := ⟨[gb, gi], fun (m, pos, _) => (some (List.length m = 32 ∧ u8s m ∧ 0 ≤ pos ∧ pos < 2560), .cell (bv (spriteB m pos)), [])⟩
theorem sprite_ok : GoodF Try.prog 198 spriteS.spec := by
  have hT := tab_ok (fs := []) tree_ok
  have hP : SpecsOk Try.prog (tab tree []) := specs_nil
  refine spriteS.good (fn := Try.f198) hT hP Try.func198 (by kernel_rfl) rfl fun (m : List Int) (pos : Int) hp => ?_
  obtain ⟨hm, hu, hp0, hp1⟩ : m.length = 32 ∧ u8s m ∧ 0 ≤ pos ∧ pos < 2560 := hp _ rfl
  have hb := u8s_get hu
  have hb1 := hb 1
  have hb2 := hb 2
  have eq64 : IntKind.i64.wrap (Int.tdiv pos 64) = pos / 64 := by rw [Int.tdiv_eq_ediv_of_nonneg hp0, w64 (by omega) (by omega)]
  have er64 : Int.tmod pos 64 = pos % 64 := Int.tmod_eq_emod_of_nonneg hp0
  have hx : IntKind.i64.wrap (Int.tmod pos 64 - IntKind.i64.wrap (bA m 1)) = pos % 64 - bA m 1 := by rw [er64, w64 (x := bA m 1) (by omega) (by omega), w64 (by omega) (by omega)]
  have hy : IntKind.i64.wrap (IntKind.i64.wrap (Int.tdiv pos 64) - IntKind.i64.wrap (bA m 2)) = pos / 64 - bA m 2 := by rw [eq64, w64 (x := bA m 2) (by omega) (by omega), w64 (by omega) (by omega)]
  repeat' first
    | (refine Go.mk ?_; conv => whnf)
    | refine Need.go ?_ ?_
    | refine NilG.go (fun _ => ?_) (fun _ => ?_)
    | refine Br.dec (fun _ => ?_) (fun _ => ?_)
    | refine Br.go (fun _ => ?_) (fun _ => ?_)
    | refine draw_go hT hP mixed ?_
    | refine round_go hT hP ?_
  all_goals first
    | decide
    | (rw [hm]; exact of_decide_eq_true rfl)
    | skip
  · rename_i g1 g2 g3 g4
    have g1 : IntKind.i64.wrap (Int.tmod pos 64 - IntKind.i64.wrap (bA m 1)) ≥ 0 := g1
    have g2 : IntKind.i64.wrap (Int.tmod pos 64 - IntKind.i64.wrap (bA m 1)) < 8 := g2
    have g3 : IntKind.i64.wrap (IntKind.i64.wrap (Int.tdiv pos 64) - IntKind.i64.wrap (bA m 2)) ≥ 0 := g3
    have g4 : IntKind.i64.wrap (IntKind.i64.wrap (Int.tdiv pos 64) - IntKind.i64.wrap (bA m 2)) < 8 := g4
    have hb4 := hb 4
    rw [hx] at g1 g2
    rw [hy] at g3 g4
    show 0 ≤ IntKind.i64.wrap (7 - IntKind.i64.wrap (Int.tmod pos 64 - IntKind.i64.wrap (bA m 1)))
    rw [hx, w64 (by omega) (by omega)]
    omega
  · rename_i g1 g2 g3 g4
    have g1 : IntKind.i64.wrap (Int.tmod pos 64 - IntKind.i64.wrap (bA m 1)) ≥ 0 := g1
    have g2 : IntKind.i64.wrap (Int.tmod pos 64 - IntKind.i64.wrap (bA m 1)) < 8 := g2
    have g3 : IntKind.i64.wrap (IntKind.i64.wrap (Int.tdiv pos 64) - IntKind.i64.wrap (bA m 2)) ≥ 0 := g3
    have g4 : IntKind.i64.wrap (IntKind.i64.wrap (Int.tdiv pos 64) - IntKind.i64.wrap (bA m 2)) < 8 := g4
    have hb4 := hb 4
    rw [hx] at g1 g2
    rw [hy] at g3 g4
    refine .mk [] [] _ rfl rfl rfl rfl rfl rfl (imm_bool ?_)
    show (land .u8 (shr .u8 (bA m 4) (IntKind.i64.wrap (7 - IntKind.i64.wrap (Int.tmod pos 64 - IntKind.i64.wrap (bA m 1))))) 1 == 1) = spriteB m pos
    rw [hx, w64 (x := 7 - (pos % 64 - bA m 1)) (by omega) (by omega)]
    have e : (7 - (pos % 64 - bA m 1)) = (((7 - (pos % 64 - bA m 1)).toNat : Nat) : Int) := by omega
    have hbit := byte_bitI2 hb4 (i := (7 - (pos % 64 - bA m 1)).toNat) (by omega)
    rw [← e] at hbit
    unfold spriteB
    rw [decide_eq_true (by omega : bA m 1 ≤ pos % 64), decide_eq_true (by omega : pos % 64 < bA m 1 + 8), decide_eq_true (by omega : bA m 2 ≤ pos / 64), decide_eq_true (by omega : pos / 64 < bA m 2 + 8)]
    show decide (land .u8 (shr .u8 (bA m 4) (7 - (pos % 64 - bA m 1))) 1 = 1) = decide (bA m 4 / 2 ^ (7 - (pos % 64 - bA m 1)).toNat % 2 = 1)
    congr 1
    exact propext hbit
  · rename_i h
    have h : ¬ IntKind.i64.wrap (IntKind.i64.wrap (Int.tdiv pos 64) - IntKind.i64.wrap (bA m 2)) < 8 := h
    refine .mk [] [] _ rfl rfl rfl rfl rfl rfl (imm_bool ?_)
    show false = spriteB m pos
    cases hs : spriteB m pos with
    | false => rfl
    | true =>
      exfalso
      unfold spriteB at hs
      simp only [Bool.and_eq_true, decide_eq_true_eq] at hs
      rw [hy] at h
      omega
  · rename_i h
    have h : ¬ IntKind.i64.wrap (IntKind.i64.wrap (Int.tdiv pos 64) - IntKind.i64.wrap (bA m 2)) ≥ 0 := h
    refine .mk [] [] _ rfl rfl rfl rfl rfl rfl (imm_bool ?_)
    show false = spriteB m pos
    cases hs : spriteB m pos with
    | false => rfl
    | true =>
      exfalso
      unfold spriteB at hs
      simp only [Bool.and_eq_true, decide_eq_true_eq] at hs
      rw [hy] at h
      omega
  · rename_i h
    have h : ¬ IntKind.i64.wrap (Int.tmod pos 64 - IntKind.i64.wrap (bA m 1)) < 8 := h
    refine .mk [] [] _ rfl rfl rfl rfl rfl rfl (imm_bool ?_)
    show false = spriteB m pos
    cases hs : spriteB m pos with
    | false => rfl
    | true =>
      exfalso
      unfold spriteB at hs
      simp only [Bool.and_eq_true, decide_eq_true_eq] at hs
      rw [hx] at h
      omega
  · rename_i h
    have h : ¬ IntKind.i64.wrap (Int.tmod pos 64 - IntKind.i64.wrap (bA m 1)) ≥ 0 := h
    refine .mk [] [] _ rfl rfl rfl rfl rfl rfl (imm_bool ?_)
    show false = spriteB m pos
    cases hs : spriteB m pos with
    | false => rfl
    | true =>
      exfalso
      unfold spriteB at hs
      simp only [Bool.and_eq_true, decide_eq_true_eq] at hs
      rw [hx] at h
      omega

theorem not_vis {b : Bool} (h : (!b) = false) : b = true := by cases b; cases h; rfl
theorem not_vis2 {b : Bool} (h : (!b) = true) : b = false := by cases b; rfl; cases h
def colorS : PSpec := ⟨[gb, gi], fun (m, pos, _) => (some (List.length m = 32 ∧ u8s m ∧ 0 ≤ pos ∧ pos < 2560), I (colorF m pos), [])⟩
def hitsS : PSpec := ⟨[gb, gi], fun (m, pos, _) => (some (List.length m = 32 ∧ u8s m ∧ 0 ≤ pos ∧ pos < 2560), .cell (bv (hitB m pos)), [])⟩
theorem hits_ok : GoodF Try.prog 173 hitsS.spec := by
  have hT := tab_ok (fs := [(197, visS.spec), (198, spriteS.spec), (199, cellS.spec)]) tree_ok
  have hP : SpecsOk Try.prog (tab tree [(197, visS.spec), (198, spriteS.spec), (199, cellS.spec)]) := specs_cons vis_ok (specs_cons sprite_ok (specs_cons cell_ok specs_nil))
  refine hitsS.good (fn := Try.f173) hT hP Try.func173 (by kernel_rfl) rfl fun (m : List Int) (pos : Int) hp => ?_
  obtain ⟨hm, hu, hp0, hp1⟩ : m.length = 32 ∧ u8s m ∧ 0 ≤ pos ∧ pos < 2560 := hp _ rfl
  repeat' first
    | (refine Go.mk ?_; conv => whnf)
    | refine Need.go ?_ ?_
    | refine NilG.go (fun _ => ?_) (fun _ => ?_)
    | refine Br.dec (fun _ => ?_) (fun _ => ?_)
    | refine Br.go (fun _ => ?_) (fun _ => ?_)
    | refine draw_go hT hP mixed ?_
    | refine round_go hT hP ?_
  all_goals first
    | exact ⟨hp0, hp1⟩
    | exact ⟨hm, hu, hp0, hp1⟩
    | (rename_i h; exact ⟨hm, hu, hp0, hp1, h⟩)
    | (rename_i h _; exact ⟨hm, hu, hp0, hp1, h⟩)
    | skip
  · rename_i h h2
    have h : visB pos = true := h
    have h2 : spriteB m pos = true := h2
    refine .mk [] [] _ rfl rfl rfl rfl rfl rfl (imm_bool ?_)
    show _ = hitB m pos
    rw [hitB, h, h2]
    show (cellF m pos != 0) = decide (cellF m pos ≠ 0)
    by_cases e : cellF m pos = 0 <;> simp [e]
  · rename_i h h2
    have h : visB pos = true := h
    have h2 : spriteB m pos = false := h2
    refine .mk [] [] _ rfl rfl rfl rfl rfl rfl (imm_bool ?_)
    show _ = hitB m pos
    rw [hitB, h, h2]; rfl
  · rename_i h
    have h : visB pos = false := h
    refine .mk [] [] _ rfl rfl rfl rfl rfl rfl (imm_bool ?_)
    show _ = hitB m pos
    rw [hitB, h]; rfl

end Go.Proofs.Ytblnigjmcjpopaa

/- The chip that draws: its state, cycles, registers. -/
namespace Go.Proofs.Ytblnigjmcjpopaa
open Go.Fw
set_option linter.unusedVariables false
set_option linter.unusedSimpArgs false
set_option maxRecDepth 100000

abbrev devM : AV := .agg [.own 0, .own 1]
theorem tup_v {a b c d : Int} (h1 : a = c) (h2 : b = d) : AV.tup [I1 a, I1 b, .c (.own 0)] = AV.tup [I1 c, I1 d, .c (.own 0)] := by rw [h1, h2]
theorem blk_v {l l' m m' : List Int} (h : l = l') (h2 : m = m') : [some (Blk.arr (.int .i64) l), some (Blk.arr (.int .u8) m)] = [some (Blk.arr (.int .i64) l'), some (Blk.arr (.int .u8) m')] := by rw [h, h2]
theorem wrap8 {x : Int} (h0 : 0 ≤ x) (h1 : x < 256) : IntKind.u8.wrap x = x := by
  show x % 256 = x
  omega
theorem tup_rv {x y : Int} (h2 : x = y) : AV.tup [.agg [.own 0, .own 1], I1 x] = AV.tup [.agg [.own 0, .own 1], I1 y] := by rw [h2]
def vfitS : PSpec := ⟨[gD], fun (d, _) => (none, .tup [I1 (vP d.1), I1 (vH d.1), .c (.own 0)], [.arr (.int .u8) (vM d.2)])⟩
theorem vfit_ok : GoodF Try.prog 172 vfitS.spec := by
  have hT := tab_ok (fs := [(70, lowM.spec)]) tree_ok
  have hP : SpecsOk Try.prog (tab tree [(70, lowM.spec)]) := specs_cons lowM_ok specs_nil
  refine vfitS.good (fn := Try.f172) hT hP Try.func172 (by kernel_rfl) rfl fun (d : Dv) _ => ?_
  obtain ⟨N, M⟩ := d
  repeat' first
    | (refine Go.mk ?_; conv => whnf)
    | refine Need.go ?_ ?_
    | refine NilG.go (fun _ => ?_) (fun _ => ?_)
    | refine Br.dec (fun _ => ?_) (fun _ => ?_)
    | refine Br.go (fun _ => ?_) (fun _ => ?_)
    | refine draw_go hT hP mixed ?_
    | refine round_go hT hP ?_
  all_goals first
    | exact of_decide_eq_true rfl
    | (rename_i h
       have h : (N.length : Int) > 0 := h
       show (0 : Int) ≤ 0 ∧ (0 : Int) < N.length
       omega)
    | (rename_i h
       have h : (N.length : Int) > 1 := h
       show (0 : Int) ≤ 1 ∧ (1 : Int) < N.length
       omega)
    | (rename_i h2 h
       have h : (N.length : Int) > 1 := h
       have h2 : ¬ (N.length : Int) > 0 := h2
       exfalso; omega)
    | skip
  · rename_i h2 h
    have h2 : (N.length : Int) > 0 := h2
    refine .mk [] [1] _ rfl rfl rfl rfl rfl rfl (tup_v ?_ ?_)
    · show Int.tmod (IntKind.i64.wrap (Int.tmod (N.getD 0 0) 2560 + 2560)) 2560 = vP N
      rw [mod_eq _ (by omega) (by omega), vP, if_neg (by omega)]
    · exact rfl
  · rename_i h2 h
    have h2 : (N.length : Int) > 0 := h2
    have h : ¬ (N.length : Int) > 1 := h
    have e : N.getD 1 0 = 0 := by simp only [List.getD_eq_getElem?_getD]; rw [List.getElem?_eq_none (by omega)]; rfl
    refine .mk [] [1] _ rfl rfl rfl rfl rfl rfl (tup_v ?_ ?_)
    · show Int.tmod (IntKind.i64.wrap (Int.tmod (N.getD 0 0) 2560 + 2560)) 2560 = vP N
      rw [mod_eq _ (by omega) (by omega), vP, if_neg (by omega)]
    · show 0 = N.getD 1 0 % 2
      rw [e]; rfl
  · rename_i h2 h
    have h2 : ¬ (N.length : Int) > 0 := h2
    have e : N.getD 1 0 = 0 := by simp only [List.getD_eq_getElem?_getD]; rw [List.getElem?_eq_none (by omega)]; rfl
    refine .mk [] [1] _ rfl rfl rfl rfl rfl rfl (tup_v ?_ ?_)
    · show 2559 = vP N
      rw [vP, if_pos (by omega)]
    · show 0 = N.getD 1 0 % 2
      rw [e]; rfl

def vmadeS : WSpec := ⟨Int × Int × List Int, fun x => [.c (iv .i64 x.1), .c (iv .i64 x.2.1), .c (.own 0)], fun x => [.arr (.int .u8) x.2.2],
  fun a b => (match a, b with | [.c (.imm (.int .i64 p)), .c (.imm (.int .i64 h)), .c (.own 0)], [.arr (.int .u8) m] => some (p, h, m) | _, _ => none),
  fun x => (none, .agg [.own 1, .own 0], [some (.arr (.int .u8) x.2.2)], [.arr (.int .i64) [x.1, x.2.1]])⟩
theorem vmade_ok : GoodF Try.prog 168 vmadeS.spec := by
  have hT := tab_ok (fs := []) tree_ok
  have hP : SpecsOk Try.prog (tab tree []) := specs_nil
  refine vmadeS.good (fn := Try.f168) hT hP Try.func168 (by kernel_rfl) rfl ?_ fun ((p, h, m) : Int × Int × List Int) _ => ?_
  · intro a b x h
    simp only [vmadeS] at h
    split at h
    · injection h with h; subst h; exact ⟨rfl, rfl⟩
    · cases h
  repeat' first
    | (refine Go.mk ?_; conv => whnf)
    | refine Need.go ?_ ?_
    | refine NilG.go (fun _ => ?_) (fun _ => ?_)
    | refine Br.dec (fun _ => ?_) (fun _ => ?_)
    | refine Br.go (fun _ => ?_) (fun _ => ?_)
    | refine draw_go hT hP mixed ?_
    | refine round_go hT hP ?_
  all_goals first
    | exact of_decide_eq_true rfl
    | exact .mk [] [0, 2] _ rfl rfl rfl rfl rfl rfl rfl

def vnewS : PSpec := ⟨[], fun _ => (none, devM, [.arr (.int .i64) [2559, 0], .arr (.int .u8) (List.replicate 32 0)])⟩
theorem vnew_ok : GoodF Try.prog 107 vnewS.spec := by
  have hT := tab_ok (fs := [(168, vmadeS.spec)]) tree_ok
  have hP : SpecsOk Try.prog (tab tree [(168, vmadeS.spec)]) := specs_cons vmade_ok specs_nil
  refine vnewS.good (fn := Try.f107) hT hP Try.func107 (by kernel_rfl) rfl fun _ => ?_
  repeat' first
    | (refine Go.mk ?_; conv => whnf)
    | refine Need.go ?_ ?_
    | refine NilG.go (fun _ => ?_) (fun _ => ?_)
    | refine Br.dec (fun _ => ?_) (fun _ => ?_)
    | refine Br.go (fun _ => ?_) (fun _ => ?_)
    | refine draw_go hT hP mixed ?_
    | refine round_go hT hP ?_
  all_goals first
    | exact of_decide_eq_true rfl
    | exact .mk [] [2, 1] _ rfl rfl rfl rfl rfl rfl rfl
    | skip

def vskipS : PSpec := ⟨[gD, gi], fun (d, k, _) => (some (u8s d.2 ∧ k ≤ 4611686018427387904), devM, [.arr (.int .i64) (iterF (tickV (vM d.2)) k.toNat [vP d.1, vH d.1]), .arr (.int .u8) (vM d.2)])⟩
theorem vskip_ok : GoodF Try.prog 125 vskipS.spec := by
  have hT := tab_ok (fs := [(168, vmadeS.spec), (172, vfitS.spec), (173, hitsS.spec)]) tree_ok
  have hP : SpecsOk Try.prog (tab tree [(168, vmadeS.spec), (172, vfitS.spec), (173, hitsS.spec)]) := specs_cons vmade_ok (specs_cons vfit_ok (specs_cons hits_ok specs_nil))
  refine vskipS.good (fn := Try.f125) hT hP Try.func125 (by kernel_rfl) rfl fun (d : Dv) (k : Int) hp => ?_
  obtain ⟨N, M⟩ := d
  obtain ⟨hu, hk⟩ : u8s M ∧ k ≤ 4611686018427387904 := hp _ rfl
  repeat' first
    | (refine Go.mk ?_; conv => whnf)
    | refine Need.go ?_ ?_
    | refine NilG.go (fun _ => ?_) (fun _ => ?_)
    | refine Br.dec (fun _ => ?_) (fun _ => ?_)
    | refine Br.go (fun _ => ?_) (fun _ => ?_)
    | refine draw_go hT hP mixed ?_
    | refine round_go hT hP ?_
  all_goals first
    | exact of_decide_eq_true rfl
    | skip
  · rename_i hg
    have hg : k > 5120 := hg
    have ek : IntKind.i64.wrap (2560 + Int.tmod k 2560) = 2560 + k % 2560 := by rw [Int.tmod_eq_emod_of_nonneg (by omega), w64 (by omega) (by omega)]
    refine loop_go hT hP (X := Int × Int × Int) (fun (i, p, h) => St.mk [.dead, .dead, .dead, .dead, .cell (.ptr 0 0), I p, I h, .cell (.own 1), .dead, .dead, .dead, .dead, .dead, .dead, .dead, .dead, .dead, .dead, .dead, I (IntKind.i64.wrap (2560 + Int.tmod k 2560)), I i, .dead, .dead, .dead, .dead, .dead, .dead, .dead, .dead, .dead, .dead, .dead, .dead] [some (.var [.imm (.slice none 0 0), .imm (.slice none 0 0)]), some (.arr (.int .u8) (vM M))])
      (fun (i, p, h) => ∃ j : Nat, i = j ∧ j ≤ (IntKind.i64.wrap (2560 + Int.tmod k 2560)).toNat ∧ [p, h] = iterF (tickV (vM M)) j [vP N, vH N] ∧ 0 ≤ p ∧ p < 2560) (fun (i, _) => ((IntKind.i64.wrap (2560 + Int.tmod k 2560)) - i).toNat) (0, vP N, vH N) (Le.mk [] [1, 2] rfl rfl ?_ ?_) ?_ fun (i, p, h) hi => ?_
    rotate_right
    repeat' first
      | (refine Go.mk ?_; conv => whnf)
      | refine Need.go ?_ ?_
      | refine NilG.go (fun _ => ?_) (fun _ => ?_)
      | refine Br.dec (fun _ => ?_) (fun _ => ?_)
      | refine Br.go (fun _ => ?_) (fun _ => ?_)
      | refine draw_go hT hP mixed ?_
      | refine round_go hT hP ?_
    rotate_right 3
    · exact rfl
    · repeat' first | exact trivial | exact ⟨rfl, rfl⟩ | refine And.intro ?_ ?_
    · exact ⟨0, rfl, Nat.zero_le _, rfl, (vP_in N).1, (vP_in N).2⟩
    all_goals
      obtain ⟨j, rfl, hj, hl, hp0, hp1⟩ := hi
      have hpos : Int.tmod (IntKind.i64.wrap (p + 1)) 2560 = (p + 1) % 2560 := by rw [w64 (by omega) (by omega), Int.tmod_eq_emod_of_nonneg (by omega)]
      have hpos2 : 0 ≤ Int.tmod (IntKind.i64.wrap (p + 1)) 2560 ∧ Int.tmod (IntKind.i64.wrap (p + 1)) 2560 < 2560 := by rw [hpos]; omega
    · decide
    · exact ⟨vM_len M, vM_u8 hu, hpos2.1, hpos2.2⟩
    · rename_i hh hlt
      have hlt : (j : Int) < IntKind.i64.wrap (2560 + Int.tmod k 2560) := hlt
      have hh : hitB (vM M) (Int.tmod (IntKind.i64.wrap (p + 1)) 2560) = true := hh
      rw [hpos] at hh
      have e : IntKind.i64.wrap ((j : Int) + 1) = ((j + 1 : Nat) : Int) := by rw [w64 (by omega) (by omega)]; omega
      apply Exists.intro (_, _, _)
      refine And.intro ?_ (And.intro ?_ (Le.mk [] [0, 1] rfl rfl ?hh ?ht))
      case hh => exact rfl
      case ht => repeat' first | exact trivial | exact ⟨rfl, rfl⟩ | refine And.intro ?_ ?_
      · refine ⟨j + 1, e, by omega, ?_, by rw [hpos]; omega, by rw [hpos]; omega⟩
        rw [iterF_succ, ← hl, tickV, hh, hpos]; rfl
      · show ((IntKind.i64.wrap (2560 + Int.tmod k 2560)) - IntKind.i64.wrap ((j : Int) + 1)).toNat < ((IntKind.i64.wrap (2560 + Int.tmod k 2560)) - (j : Int)).toNat
        rw [e]; omega
    · rename_i hh hlt
      have hlt : (j : Int) < IntKind.i64.wrap (2560 + Int.tmod k 2560) := hlt
      have hh : hitB (vM M) (Int.tmod (IntKind.i64.wrap (p + 1)) 2560) = false := hh
      rw [hpos] at hh
      have e : IntKind.i64.wrap ((j : Int) + 1) = ((j + 1 : Nat) : Int) := by rw [w64 (by omega) (by omega)]; omega
      apply Exists.intro (_, _, _)
      refine And.intro ?_ (And.intro ?_ (Le.mk [] [0, 1] rfl rfl ?hh ?ht))
      case hh => exact rfl
      case ht => repeat' first | exact trivial | exact ⟨rfl, rfl⟩ | refine And.intro ?_ ?_
      · refine ⟨j + 1, e, by omega, ?_, by rw [hpos]; omega, by rw [hpos]; omega⟩
        rw [iterF_succ, ← hl, tickV, hh, hpos]; rfl
      · show ((IntKind.i64.wrap (2560 + Int.tmod k 2560)) - IntKind.i64.wrap ((j : Int) + 1)).toNat < ((IntKind.i64.wrap (2560 + Int.tmod k 2560)) - (j : Int)).toNat
        rw [e]; omega
    · rename_i hlt
      have hlt : ¬ (j : Int) < IntKind.i64.wrap (2560 + Int.tmod k 2560) := hlt
      have ej : j = (IntKind.i64.wrap (2560 + Int.tmod k 2560)).toNat := by omega
      refine .mk [] [2, 1] _ rfl rfl rfl rfl rfl (blk_v (l := [p, h]) ?_ rfl) rfl
      show _ = iterF (tickV (vM M)) k.toNat [vP N, vH N]
      have en : j = 2560 + k.toNat % 2560 := by rw [ej, ek]; omega
      rw [iterV_far (vM M) (vP_in N) (n := k.toNat) (by omega), ← en]; exact hl
  · rename_i hg
    have hg : ¬ k > 5120 := hg
    refine loop_go hT hP (X := Int × Int × Int) (fun (i, p, h) => St.mk [.dead, .dead, .dead, .dead, .cell (.ptr 0 0), I p, I h, .cell (.own 1), .dead, .dead, .dead, .dead, .dead, .dead, .dead, .dead, .dead, .dead, .dead, I k, I i, .dead, .dead, .dead, .dead, .dead, .dead, .dead, .dead, .dead, .dead, .dead, .dead] [some (.var [.imm (.slice none 0 0), .imm (.slice none 0 0)]), some (.arr (.int .u8) (vM M))])
      (fun (i, p, h) => ∃ j : Nat, i = j ∧ j ≤ k.toNat ∧ [p, h] = iterF (tickV (vM M)) j [vP N, vH N] ∧ 0 ≤ p ∧ p < 2560) (fun (i, _) => (k - i).toNat) (0, vP N, vH N) (Le.mk [] [1, 2] rfl rfl ?_ ?_) ?_ fun (i, p, h) hi => ?_
    rotate_right
    repeat' first
      | (refine Go.mk ?_; conv => whnf)
      | refine Need.go ?_ ?_
      | refine NilG.go (fun _ => ?_) (fun _ => ?_)
      | refine Br.dec (fun _ => ?_) (fun _ => ?_)
      | refine Br.go (fun _ => ?_) (fun _ => ?_)
      | refine draw_go hT hP mixed ?_
      | refine round_go hT hP ?_
    rotate_right 3
    · exact rfl
    · repeat' first | exact trivial | exact ⟨rfl, rfl⟩ | refine And.intro ?_ ?_
    · exact ⟨0, rfl, Nat.zero_le _, rfl, (vP_in N).1, (vP_in N).2⟩
    all_goals
      obtain ⟨j, rfl, hj, hl, hp0, hp1⟩ := hi
      have hpos : Int.tmod (IntKind.i64.wrap (p + 1)) 2560 = (p + 1) % 2560 := by rw [w64 (by omega) (by omega), Int.tmod_eq_emod_of_nonneg (by omega)]
      have hpos2 : 0 ≤ Int.tmod (IntKind.i64.wrap (p + 1)) 2560 ∧ Int.tmod (IntKind.i64.wrap (p + 1)) 2560 < 2560 := by rw [hpos]; omega
    · decide
    · exact ⟨vM_len M, vM_u8 hu, hpos2.1, hpos2.2⟩
    · rename_i hh hlt
      have hlt : (j : Int) < k := hlt
      have hh : hitB (vM M) (Int.tmod (IntKind.i64.wrap (p + 1)) 2560) = true := hh
      rw [hpos] at hh
      have e : IntKind.i64.wrap ((j : Int) + 1) = ((j + 1 : Nat) : Int) := by rw [w64 (by omega) (by omega)]; omega
      apply Exists.intro (_, _, _)
      refine And.intro ?_ (And.intro ?_ (Le.mk [] [0, 1] rfl rfl ?hh ?ht))
      case hh => exact rfl
      case ht => repeat' first | exact trivial | exact ⟨rfl, rfl⟩ | refine And.intro ?_ ?_
      · refine ⟨j + 1, e, by omega, ?_, by rw [hpos]; omega, by rw [hpos]; omega⟩
        rw [iterF_succ, ← hl, tickV, hh, hpos]; rfl
      · show (k - IntKind.i64.wrap ((j : Int) + 1)).toNat < (k - (j : Int)).toNat
        rw [e]; omega
    · rename_i hh hlt
      have hlt : (j : Int) < k := hlt
      have hh : hitB (vM M) (Int.tmod (IntKind.i64.wrap (p + 1)) 2560) = false := hh
      rw [hpos] at hh
      have e : IntKind.i64.wrap ((j : Int) + 1) = ((j + 1 : Nat) : Int) := by rw [w64 (by omega) (by omega)]; omega
      apply Exists.intro (_, _, _)
      refine And.intro ?_ (And.intro ?_ (Le.mk [] [0, 1] rfl rfl ?hh ?ht))
      case hh => exact rfl
      case ht => repeat' first | exact trivial | exact ⟨rfl, rfl⟩ | refine And.intro ?_ ?_
      · refine ⟨j + 1, e, by omega, ?_, by rw [hpos]; omega, by rw [hpos]; omega⟩
        rw [iterF_succ, ← hl, tickV, hh, hpos]; rfl
      · show (k - IntKind.i64.wrap ((j : Int) + 1)).toNat < (k - (j : Int)).toNat
        rw [e]; omega
    · rename_i hlt
      have hlt : ¬ (j : Int) < k := hlt
      have ej : j = k.toNat := by omega
      refine .mk [] [2, 1] _ rfl rfl rfl rfl rfl (blk_v (l := [p, h]) ?_ rfl) rfl
      show _ = iterF (tickV (vM M)) k.toNat [vP N, vH N]
      rw [← ej]; exact hl

def vtickS : PSpec := ⟨[gD], fun (d, _) => (some (u8s d.2), devM, [.arr (.int .i64) (tickV (vM d.2) [vP d.1, vH d.1]), .arr (.int .u8) (vM d.2)])⟩
def voutS : PSpec := ⟨[gD], fun (d, _) => (some (u8s d.2), I (colorF (vM d.2) (vP d.1)), [])⟩
def vwM (m : List Int) (a k : Int) : List Int := if (0 ≤ a ∧ a < 32) ∧ (a < 5 ∨ a > 7) then m.set a.toNat (k % 256) else m
def vwriteS : PSpec := ⟨[gD, gi, gi], fun (d, a, k, _) => (none, devM, [.arr (.int .i64) [vP d.1, vH d.1], .arr (.int .u8) (vwM (vM d.2) a k)])⟩
theorem vwrite_ok : GoodF Try.prog 165 vwriteS.spec := by
  have hT := tab_ok (fs := [(168, vmadeS.spec), (172, vfitS.spec), (70, lowM.spec)]) tree_ok
  have hP : SpecsOk Try.prog (tab tree [(168, vmadeS.spec), (172, vfitS.spec), (70, lowM.spec)]) := specs_cons vmade_ok (specs_cons vfit_ok (specs_cons lowM_ok specs_nil))
  refine vwriteS.good (fn := Try.f165) hT hP Try.func165 (by kernel_rfl) rfl fun (d : Dv) (a k : Int) _ => ?_
  obtain ⟨N, M⟩ := d
  repeat' first
    | (refine Go.mk ?_; conv => whnf)
    | refine Need.go ?_ ?_
    | refine NilG.go (fun _ => ?_) (fun _ => ?_)
    | refine Br.dec (fun _ => ?_) (fun _ => ?_)
    | refine Br.go (fun _ => ?_) (fun _ => ?_)
    | refine draw_go hT hP mixed ?_
    | refine round_go hT hP ?_
  all_goals first
    | exact of_decide_eq_true rfl
    | skip
  · show 0 ≤ a ∧ a < (vM M).length
    rw [vM_len]; omega
  · show a.toNat < (vM M).length
    rw [vM_len]; omega
  · refine .mk [] [3, 2] _ rfl rfl rfl rfl rfl (blk_v (l := [vP N, vH N]) (m := (vM M).set a.toNat (IntKind.u8.wrap (k % 2 ^ (8 : Int).toNat))) rfl ?_) rfl
    show _ = vwM (vM M) a k
    have e : IntKind.u8.wrap (k % 2 ^ (8 : Int).toNat) = k % 256 := wrap8 (by show 0 ≤ k % 256; omega) (by show k % 256 < 256; omega)
    rw [vwM, if_pos ⟨⟨by omega, by omega⟩, by omega⟩, e]
  · show 0 ≤ a ∧ a < (vM M).length
    rw [vM_len]; omega
  · show a.toNat < (vM M).length
    rw [vM_len]; omega
  · refine .mk [] [3, 2] _ rfl rfl rfl rfl rfl (blk_v (l := [vP N, vH N]) (m := (vM M).set a.toNat (IntKind.u8.wrap (k % 2 ^ (8 : Int).toNat))) rfl ?_) rfl
    show _ = vwM (vM M) a k
    have e : IntKind.u8.wrap (k % 2 ^ (8 : Int).toNat) = k % 256 := wrap8 (by show 0 ≤ k % 256; omega) (by show k % 256 < 256; omega)
    rw [vwM, if_pos ⟨⟨by omega, by omega⟩, by omega⟩, e]
  · refine .mk [] [3, 2] _ rfl rfl rfl rfl rfl (blk_v (l := [vP N, vH N]) (m := vM M) rfl ?_) rfl
    show _ = vwM (vM M) a k
    rw [vwM, if_neg (fun e => by omega)]
  · refine .mk [] [3, 2] _ rfl rfl rfl rfl rfl (blk_v (l := [vP N, vH N]) (m := vM M) rfl ?_) rfl
    show _ = vwM (vM M) a k
    rw [vwM, if_neg (fun e => by omega)]
  · refine .mk [] [3, 2] _ rfl rfl rfl rfl rfl (blk_v (l := [vP N, vH N]) (m := vM M) rfl ?_) rfl
    show _ = vwM (vM M) a k
    rw [vwM, if_neg (fun e => by omega)]

def vrF (N m : List Int) (a : Int) : Int := if a = 5 then vP N / 64 else if a = 6 then vP N % 64 else if a = 7 then vH N else if 0 ≤ a ∧ a < 32 then bA m a.toNat else 0
def vrN (N : List Int) (a : Int) : List Int := [vP N, if a = 7 then 0 else vH N]
def vreadS : PSpec := ⟨[gD, gi], fun (d, a, _) => (some (u8s d.2), .tup [.agg [.own 0, .own 1], I1 (vrF d.1 (vM d.2) a)], [.arr (.int .i64) (vrN d.1 a), .arr (.int .u8) (vM d.2)])⟩
theorem vread_ok : GoodF Try.prog 158 vreadS.spec := by
  have hT := tab_ok (fs := [(168, vmadeS.spec), (172, vfitS.spec)]) tree_ok
  have hP : SpecsOk Try.prog (tab tree [(168, vmadeS.spec), (172, vfitS.spec)]) := specs_cons vmade_ok (specs_cons vfit_ok specs_nil)
  refine vreadS.good (fn := Try.f158) hT hP Try.func158 (by kernel_rfl) rfl fun (d : Dv) (a : Int) hp => ?_
  obtain ⟨N, M⟩ := d
  have hu : u8s M := hp _ rfl
  have hP0 := vP_in N
  repeat' first
    | (refine Go.mk ?_; conv => whnf)
    | refine Need.go ?_ ?_
    | refine NilG.go (fun _ => ?_) (fun _ => ?_)
    | refine Br.dec (fun _ => ?_) (fun _ => ?_)
    | refine Br.go (fun _ => ?_) (fun _ => ?_)
    | refine draw_go hT hP mixed ?_
    | refine round_go hT hP ?_
  all_goals first
    | exact of_decide_eq_true rfl
    | (show 0 ≤ a ∧ a < (vM M).length
       rw [vM_len]; omega)
    | (show a.toNat < (vM M).length
       rw [vM_len]; omega)
    | skip
  · rename_i h
    have h : a = 5 := h
    refine .mk [] [3, 2] _ rfl rfl rfl rfl rfl (blk_v (l := [vP N, vH N]) (m := vM M) ?_ rfl) (tup_rv ?_)
    · show _ = vrN N a
      rw [vrN, if_neg (by omega)]
    · show IntKind.i64.wrap (Int.tdiv (vP N) 64) = vrF N (vM M) a
      rw [vrF, if_pos h, Int.tdiv_eq_ediv_of_nonneg hP0.1, w64 (by omega) (by omega)]
  · rename_i h0 h
    have h : a = 6 := h
    refine .mk [] [3, 2] _ rfl rfl rfl rfl rfl (blk_v (l := [vP N, vH N]) (m := vM M) ?_ rfl) (tup_rv ?_)
    · show _ = vrN N a
      rw [vrN, if_neg (by omega)]
    · show Int.tmod (vP N) 64 = vrF N (vM M) a
      rw [vrF, if_neg h0, if_pos h, Int.tmod_eq_emod_of_nonneg hP0.1]
  · rename_i h0 h1 h
    have h : a = 7 := h
    refine .mk [] [3, 2] _ rfl rfl rfl rfl rfl (blk_v (l := [vP N, 0]) (m := vM M) ?_ rfl) (tup_rv ?_)
    · show _ = vrN N a
      rw [vrN, if_pos h]
    · show vH N = vrF N (vM M) a
      rw [vrF, if_neg h0, if_neg h1, if_pos h]
  · rename_i h0 h1 h2 h3 h4
    have hb := u8s_get (vM_u8 hu) a.toNat
    refine .mk [] [3, 2] _ rfl rfl rfl rfl rfl (blk_v (l := [vP N, vH N]) (m := vM M) ?_ rfl) (tup_rv ?_)
    · show _ = vrN N a
      rw [vrN, if_neg h2]
    · show IntKind.i64.wrap (bA (vM M) a.toNat) = vrF N (vM M) a
      rw [vrF, if_neg h0, if_neg h1, if_neg h2, if_pos ⟨h3, h4⟩, w64 (by omega) (by omega)]
  · rename_i h0 h1 h2 h3 h4
    refine .mk [] [3, 2] _ rfl rfl rfl rfl rfl (blk_v (l := [vP N, vH N]) (m := vM M) ?_ rfl) (tup_rv ?_)
    · show _ = vrN N a
      rw [vrN, if_neg h2]
    · show 0 = vrF N (vM M) a
      rw [vrF, if_neg h0, if_neg h1, if_neg h2, if_neg (fun e => h4 e.2)]
  · rename_i h0 h1 h2 h3
    refine .mk [] [3, 2] _ rfl rfl rfl rfl rfl (blk_v (l := [vP N, vH N]) (m := vM M) ?_ rfl) (tup_rv ?_)
    · show _ = vrN N a
      rw [vrN, if_neg h2]
    · show 0 = vrF N (vM M) a
      rw [vrF, if_neg h0, if_neg h1, if_neg h2, if_neg (fun e => h3 e.1)]

def diffV (m : List Int) (p k : Int) : Bool := decide (colorF m ((p + k) % 2560) ≠ colorF m p)
def restD (m : List Int) (p : Int) : Nat → Int
  | 0 => 100000
  | n + 1 => if diffV m p (2560 - n) = true then 2560 - n - 1 else restD m p n
def vnextF (m : List Int) (p : Int) : Int := restD m p 2560
theorem restD_go (m : List Int) (p : Int) {n : Nat} (h : diffV m p (2560 - n) = false) : restD m p (n + 1) = restD m p n := by
  rw [restD, h]; rfl
theorem restD_is (m : List Int) (p : Int) {n : Nat} (h : diffV m p (2560 - n) = true) : restD m p (n + 1) = 2560 - n - 1 := by
  rw [restD, h]; rfl
def vnextS : PSpec := ⟨[gD], fun (d, _) => (some (u8s d.2), I (vnextF (vM d.2) (vP d.1)), [])⟩
def videosS : PSpec := ⟨[], fun _ => (none, .cell (bv true), [])⟩
end Go.Proofs.Ytblnigjmcjpopaa

