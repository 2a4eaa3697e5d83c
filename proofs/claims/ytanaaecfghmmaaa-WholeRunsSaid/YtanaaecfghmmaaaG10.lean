/- Part 10 of the proof: Fw31 VideoLaw TurnLaw Turn Turn2 Shade Video Video2 Mem DriveO Video3 Kind Kind2 ChipE Kind3 Board Wires Finds0. No statement is handed in here; conditions: none. -/
import Derived.Test.YtanaaecfghmmaaaG6
import Derived.ChangeArms
import Derived.ChangeOld
import Derived.SizedLaws
import Derived.Test.YtanaaecfghmmaaaG8
import Derived.Test.YtanaaecfghmmaaaG7
import Derived.Test.YtanaaecfghmmaaaG9
/- What an argument that reads well is as typed data. -/
namespace Go.Fw
open Go.ChangeShapes Go.WideShapes
set_option linter.unusedVariables false
set_option linter.unusedSimpArgs false

def Wf : (u : Ty) → Den u → Prop
  | .int k, x => (Lit.int k x).wf = true
  | .ints k n, l => List.length l = n ∧ ∀ x ∈ (l : List Int), (Lit.int k x).wf = true
  | .bool, _ => True
  | .str, s => ByteArray.size s ≤ reachBytes
  | .sl t, l => List.length l * t.by_ ≤ reachBytes ∧ ∀ x ∈ (l : List (Den t)), Wf t x
  | .pair a b, x => Wf a x.1 ∧ Wf b x.2

theorem addr_add (a : Addr) (x y : Nat) : (a.add x).add y = a.add (x + y) := by
  unfold Addr.add
  split <;> split <;> simp_all [Nat.add_assoc]

/-- a measure of what an argument reads as -/
structure BulkLaw {H : Type} (bk : DataW H → Nat) (ba : List (DataW H) → Nat) : Prop where
  cons : ∀ d r, bk d + ba r ≤ ba (d :: r)
  one : ∀ d, 1 ≤ bk d
  sl : ∀ e s, ba e + 1 ≤ bk (.slice e s)
  ag : ∀ p, ba p ≤ bk (.agg p)
  st : ∀ b, b.length + 1 ≤ bk (.lit (.string b))
/-- the measure of typed data -/
def bd : (u : Ty) → Den u → Nat
  | .int _, _ => 1
  | .ints _ n, _ => n
  | .bool, _ => 1
  | .str, s => ByteArray.size s + 1
  | .sl t, l => (List.map (bd t) l).sum + 1
  | .pair a b, x => bd a x.1 + bd b x.2
theorem BulkLaw.len {H : Type} {bk : DataW H → Nat} {ba : List (DataW H) → Nat} (B : BulkLaw bk ba) : ∀ l, l.length ≤ ba l
  | [] => Nat.zero_le _
  | d :: r => by
    have h1 := B.cons d r
    have h2 := B.one d
    have h3 := B.len r
    simp only [List.length_cons]
    omega
def sumTo (B : Nat → Nat) : Nat → Nat
  | 0 => 0
  | n + 1 => sumTo B n + B n
theorem sumTo_succ (B : Nat → Nat) : ∀ n, sumTo B (n + 1) = B 0 + sumTo (fun i => B (i + 1)) n
  | 0 => by simp [sumTo]
  | n + 1 => by rw [sumTo, sumTo_succ B n, sumTo]; omega
theorem BulkLaw.sum {H : Type} {bk : DataW H → Nat} {ba : List (DataW H) → Nat} (B : BulkLaw bk ba) : ∀ l : List (DataW H), sumTo (fun i => bk (l.getD i .nil)) l.length ≤ ba l
  | [] => Nat.zero_le _
  | d :: r => by
    have h1 := B.cons d r
    have h2 := B.sum r
    rw [List.length_cons, sumTo_succ]
    simp only [List.getD_cons_zero, List.getD_cons_succ]
    omega
theorem bulk_size (H : Type) : BulkLaw (H := H) (fun d => SizeOf.sizeOf d) (fun l => SizeOf.sizeOf l) where
  cons := fun d r => by simp
  one := fun d => by cases d <;> simp <;> omega
  sl := fun e s => by simp; omega
  ag := fun p => by simp
  st := fun b => by
    have : ∀ b : List UInt8, b.length ≤ SizeOf.sizeOf b := by
      intro b
      induction b with
      | nil => simp
      | cons x r ih => simp; omega
    have := this b
    simp; omega

theorem rows_listB {α : Type} {R : α → List Value → Prop} {Q : α → Prop} {m : α → Nat} {B : Nat → Nat} {w : World} {a : Addr} {c : Nat} : ∀ (len : Nat), (∀ i, i < len → ∃ d r, R d r ∧ (Q d ∧ m d ≤ B i) ∧ r.length = c ∧ ∀ j, j < c → w.cell? ((a.add (i * c)).add j) = r[j]?) →
    ∃ (l : List α) (us : List Value), l.length = len ∧ ListRel R l us ∧ (∀ x ∈ l, Q x) ∧ us.length = len * c ∧ (∀ k u, us[k]? = some u → w.cell? (a.add k) = some u) ∧ (l.map m).sum ≤ sumTo B len
  | 0, _ => ⟨[], [], rfl, rfl, fun x h => (by cases h), by simp, fun k u h => (by simp at h), Nat.le_refl _⟩
  | len + 1, h => by
    obtain ⟨l, us, h1, h2, h3, h4, h5, h6⟩ := rows_listB len fun i hi => h i (by omega)
    obtain ⟨d, r, g1, ⟨g2, g5⟩, g3, g4⟩ := h len (by omega)
    refine ⟨l ++ [d], us ++ r, by simp [h1], h2.append ⟨r, [], by simp, g1, rfl⟩, fun x hx => ?_, by simp [h4, g3, Nat.add_mul], fun k u hk => ?_, by simp [sumTo]; omega⟩
    · rcases List.mem_append.1 hx with hx | hx
      · exact h3 x hx
      · simp at hx; subst hx; exact g2
    · rw [List.getElem?_append] at hk
      split at hk
      · exact h5 k u hk
      · have hlt := (List.getElem?_eq_some_iff.1 hk).1
        have := g4 (k - us.length) (by omega)
        rw [addr_add] at this
        have e : len * c + (k - us.length) = k := by omega
        rw [e] at this
        rw [this, hk]

section
variable {H : Type} {enc : TypeId × Value → H} {P : Program} {w : World} {sp : Nat → Bool} {held : Bool}

def inHeap (w : World) (g : Nat) : Prop := g < w.heap.size

theorem weights_mem {e : TypeId} {d : DataW H} {n : Nat} (hn : n ∈ DataW.weights P e d) : ∀ {l : List (DataW H)}, d ∈ l → n ∈ DataW.weightsAll P e l
  | [], h => by cases h
  | x :: l, h => by
    simp only [DataW.weightsAll, List.mem_append]
    rcases List.mem_cons.1 h with rfl | h
    · exact .inl hn
    · exact .inr (weights_mem hn h)

variable {bk : DataW H → Nat} {ba : List (DataW H) → Nat}
theorem fits_struct (B : BulkLaw bk ba) {g : Ty → TypeId → Bool} {n : Nat} (ih : ∀ {u : Ty} {t : TypeId} {cs : List Value} {x : DataW H × List MemPlace}, g u t = true → (∀ z ∈ DataW.weights P t x.1, z ≤ reachBytes) → DataW.trod enc P w 0 sp held n t cs = some x → ∃ d : Den u, CR w (inHeap w) u d cs ∧ Wf u d ∧ bd u d ≤ bk x.1) :
    ∀ (fs : List Field) (u : Ty) (off : Nat) (cs : List Value) (xs : List (DataW H × List MemPlace)), fitsF P g u fs off = true → off + u.size = cs.length → xs.length = fs.length → (∀ z ∈ DataW.weightsEach P (fs.map (·.type)) (xs.map (·.1)), z ≤ reachBytes) →
      (∀ (i : Nat) (f : Field), fs[i]? = some f → DataW.trod enc P w 0 sp held n f.type ((cs.drop f.offset).take (P.cellsOf f.type)) = xs[i]?) → ∃ d : Den u, CR w (inHeap w) u d (cs.drop off) ∧ Wf u d ∧ bd u d ≤ ba (xs.map (·.1))
  | [], u, off, cs, xs, h, _, _, _, _ => by simp [fitsF] at h
  | [f], u, off, cs, xs, h, hl, hxl, hz, hx => by
    simp only [fitsF, Bool.and_eq_true] at h
    obtain ⟨⟨h1, h2⟩, h3⟩ := h
    have h2 := Nat.eq_of_beq_eq_true h2
    have h3 := Nat.eq_of_beq_eq_true h3
    have := hx 0 f rfl
    have hlt : 0 < xs.length := by rw [hxl]; simp
    rw [List.getElem?_eq_getElem hlt, h2, h3, List.take_of_length_le (by simp; omega)] at this
    obtain ⟨d0, c0, w0, b0⟩ := ih h1 (fun z hz' => hz z (by
      cases xs with
      | nil => simp at hlt
      | cons y ys => simp only [List.map_cons, DataW.weightsEach, List.mem_append]; exact .inl hz')) this
    refine ⟨d0, c0, w0, ?_⟩
    cases xs with
    | nil => simp at hlt
    | cons y ys =>
      have := B.cons y.1 (ys.map (·.1))
      simp only [List.map_cons]
      simp only [List.getElem_cons_zero] at b0
      omega
  | f :: f' :: fs, u, off, cs, xs, h, hl, hxl, hz, hx => by
    unfold fitsF at h
    split at h
    · rename_i a b
      simp only [Bool.and_eq_true] at h
      obtain ⟨⟨⟨h1, h2⟩, h3⟩, h4⟩ := h
      have h2 := Nat.eq_of_beq_eq_true h2
      have h3 := Nat.eq_of_beq_eq_true h3
      have h0 := hx 0 f rfl
      have hlt : 0 < xs.length := by rw [hxl]; simp
      rw [List.getElem?_eq_getElem hlt, h2, h3] at h0
      have hz1 : ∀ z ∈ DataW.weights P f.type xs[0].1, z ≤ reachBytes := fun z hz' => hz z (by
        cases xs with
        | nil => simp at hlt
        | cons y ys => simp only [List.map_cons, DataW.weightsEach, List.mem_append]; exact .inl hz')
      have hz2 : ∀ z ∈ DataW.weightsEach P ((f' :: fs).map (·.type)) (xs.tail.map (·.1)), z ≤ reachBytes := fun z hz' => hz z (by
        cases xs with
        | nil => simp at hlt
        | cons y ys => rw [show ((f :: f' :: fs).map (·.type)) = f.type :: (f' :: fs).map (·.type) from rfl, show ((y :: ys).map (·.1)) = y.1 :: ys.map (·.1) from rfl, DataW.weightsEach, List.mem_append]; exact .inr hz')
      obtain ⟨d1, c1, w1, b1⟩ := ih h1 hz1 h0
      obtain ⟨d2, c2, w2, b2⟩ := fits_struct B ih (f' :: fs) b (off + a.size) cs xs.tail h4 (by simp only [Ty.size] at hl; omega) (by simp [hxl]) hz2 fun i g hg => by
        have := hx (i + 1) g (by simpa using hg)
        rw [this]
        cases xs with
        | nil => simp at hlt
        | cons y ys => simp
      refine ⟨(d1, d2), ⟨_, _, by rw [← List.drop_drop, List.take_append_drop], c1, c2⟩, ⟨w1, w2⟩, ?_⟩
      cases xs with
      | nil => simp at hlt
      | cons y ys =>
        have := B.cons y.1 (ys.map (·.1))
        simp only [List.map_cons, bd]
        simp only [List.getElem_cons_zero] at b1
        simp only [List.tail_cons] at b2
        omega
    · cases h

theorem trod_array {t e : TypeId} {m fuel : Nat} {cs : List Value} {x : DataW H × List MemPlace} (ht : P.underlying t = some (.array m e)) (h : DataW.trod enc P w 0 sp held fuel t cs = some x) :
    ∃ (xs : List (DataW H × List MemPlace)) (n : Nat), x.1 = .agg (xs.map (·.1)) ∧ cs.length = P.cellsOf t ∧ xs.length = m ∧ ∀ i, i < m → DataW.trod enc P w 0 sp held n e ((cs.drop (i * P.cellsOf e)).take (P.cellsOf e)) = xs[i]? := by
  cases fuel with
  | zero => simp [DataW.trod] at h
  | succ n =>
    unfold DataW.trod at h
    rw [ht] at h
    split at h <;> simp_all
    obtain ⟨hl, xs, hp, hd⟩ := h
    exact ⟨xs, by rw [← hd], by simpa using mapM_some_length hp, n, fun i hi => mapM_some_get hp i i (by simp [hi])⟩

theorem ints_of {k : IntKind} : ∀ (cs : List Value), (∀ i, i < cs.length → ∃ n : Int, cs[i]? = some (.int k n) ∧ (Lit.int k n).wf = true) → ∃ l : List Int, cs = l.map (.int k) ∧ ∀ x ∈ l, (Lit.int k x).wf = true
  | [], _ => ⟨[], rfl, fun x h => (by cases h)⟩
  | v :: cs, h => by
    obtain ⟨n, h1, h2⟩ := h 0 (by simp)
    simp at h1
    subst h1
    obtain ⟨l, rfl, h3⟩ := ints_of cs fun i hi => by simpa using h (i + 1) (by simpa using hi)
    refine ⟨n :: l, rfl, fun x hx => ?_⟩
    rcases List.mem_cons.1 hx with rfl | hx
    · exact h2
    · exact h3 x hx

theorem open_cr (B : BulkLaw bk ba) : ∀ (m : Nat) {u : Ty} {t : TypeId} {fuel : Nat} {cs : List Value} {x : DataW H × List MemPlace}, tyFits P m u t = true → (∀ z ∈ DataW.weights P t x.1, z ≤ reachBytes) → DataW.trod enc P w 0 sp held fuel t cs = some x → ∃ d : Den u, CR w (inHeap w) u d cs ∧ Wf u d ∧ bd u d ≤ bk x.1
  | 0, _, _, _, _, _, h, _, _ => by cases h
  | m + 1, u, t, fuel, cs, x, h, hz, hx => by
    unfold tyFits at h
    split at h
    · rename_i hu
      obtain ⟨b, rfl, _⟩ := DataW.trod_bool hu hx
      exact ⟨b, rfl, trivial, B.one _⟩
    · rename_i k k' hu
      simp only [decide_eq_true_eq] at h
      subst h
      obtain ⟨n, rfl, _, hw⟩ := DataW.trod_int hu hx
      exact ⟨n, rfl, hw, B.one _⟩
    · rename_i hu
      obtain ⟨s, rfl, rfl, hs⟩ := DataW.trod_string hu hx
      exact ⟨s, rfl, by show ByteArray.size s ≤ reachBytes; simpa using hz s.data.toList.length (by simp [DataW.weights]), by have := B.st s.data.toList; rw [Array.length_toList] at this; exact this⟩
    · rename_i e v hu
      simp only [Bool.and_eq_true] at h
      obtain ⟨⟨⟨h1, h2⟩, h3⟩, h4⟩ := h
      have h2 := Nat.eq_of_beq_eq_true h2
      have h3 : 1 ≤ v.size := by simpa using h3
      have h4 : v.by_ ≤ P.bytesOf e := by simpa using h4
      rcases DataW.trod_slice hu hx with ⟨rfl, _⟩ | ⟨a, len, cap, elems, rest, n, rfl, rfl, rfl, hb, hl, hm, hlen, hel, _, _⟩
      · exact ⟨[], ⟨_, rfl, none, 0, rfl, Nat.le_refl _, fun hne => absurd rfl hne⟩, ⟨by simp [Nat.zero_le], fun x hx => (by cases hx)⟩, B.one _⟩
      · have hw0 : ∀ d ∈ elems.map (·.1), ∀ z ∈ DataW.weights P e d, z ≤ reachBytes := fun d hd z hz' => hz z (by
          simp only [DataW.weights, hu, List.mem_cons, List.mem_append]
          exact .inr (.inl (weights_mem hz' hd)))
        have each : ∀ i, i < len → ∃ (d : Den v) (r : List Value), CR w (inHeap w) v d r ∧ (Wf v d ∧ bd v d ≤ bk ((elems.map (·.1)).getD i .nil)) ∧ r.length = v.size ∧ ∀ j, j < v.size → w.cell? ((a.add (i * v.size)).add j) = r[j]? := by
          intro i hi
          have := hel i hi
          rw [List.getElem?_eq_getElem (by omega), h2] at this
          obtain ⟨r, hr, ht⟩ := Option.bind_eq_some_iff.1 this
          obtain ⟨_, hrl, hrc⟩ := World.cells?_some hr
          obtain ⟨d, c1, w1, b1⟩ := open_cr B m h1 (hw0 _ (List.mem_map_of_mem (List.getElem_mem (by omega)))) ht
          exact ⟨d, r, c1, ⟨w1, by rw [List.getD_eq_getElem?_getD, List.getElem?_map, List.getElem?_eq_getElem (by omega)]; exact b1⟩, hrl, hrc⟩
        obtain ⟨l, us, e1, e2, e3, e4, e5, e6⟩ := rows_listB (B := fun i => bk ((elems.map (·.1)).getD i .nil)) len each
        refine ⟨l, ⟨_, rfl, some a, cap, by rw [e1], by omega, fun hne => ⟨a, us, rfl, ?_, e2, e5⟩⟩, ⟨?_, e3⟩, ?_⟩
        rotate_left
        · have := hz ((elems.length + rest.length) * P.bytesOf e) (by simp [DataW.weights, hu])
          have k1 : l.length * v.by_ ≤ (elems.length + rest.length) * P.bytesOf e := Nat.mul_le_mul (by omega) h4
          exact Nat.le_trans k1 this
        · have k1 := B.sum (elems.map (·.1))
          rw [List.length_map, show elems.length = len by omega] at k1
          have k2 := B.sl (elems.map (·.1)) (rest.map (·.1))
          simp only [bd]
          exact Nat.le_trans (Nat.succ_le_succ (Nat.le_trans e6 k1)) k2
        have hlen0 : 0 < len := by
          rw [← e1]
          exact List.length_pos_iff.2 hne
        have := hel 0 hlen0
        rw [List.getElem?_eq_getElem (by omega), h2] at this
        obtain ⟨r, hr, _⟩ := Option.bind_eq_some_iff.1 this
        have hb := World.cells?_block hr (by omega)
        have hbl : (a.add (0 * v.size)).block = a.block := by unfold Addr.add; split <;> rfl
        rw [hbl] at hb
        exact hb
    · rename_i u F hu
      rw [Bool.and_eq_true] at h
      obtain ⟨xs, n, rfl, rfl, hl, hxl, hf⟩ := DataW.trod_struct hu hx
      have hz' : ∀ z ∈ DataW.weightsEach P (F.toList.map (·.type)) (xs.map (·.1)), z ≤ reachBytes := fun z h => hz z (by simp only [DataW.weights, hu]; exact h)
      have h2 := Nat.eq_of_beq_eq_true h.2
      have := fits_struct B (g := tyFits P m) (fun h1 h2 h3 => open_cr B m h1 h2 h3) F.toList _ 0 cs xs h.1 (by omega) (by simpa using hxl) hz' fun i f hi => hf i f (by rw [← Array.getElem?_toList]; exact hi)
      obtain ⟨d, c1, w1, b1⟩ := this
      exact ⟨d, by simpa using c1, w1, Nat.le_trans b1 (B.ag _)⟩
    · rename_i hu
      split at h
      · rename_i k' he
        simp only [Bool.and_eq_true, decide_eq_true_eq] at h
        obtain ⟨⟨⟨rfl, h2⟩, h3⟩, h4⟩ := h
        have h2 := Nat.eq_of_beq_eq_true h2
        have h3 := Nat.eq_of_beq_eq_true h3
        have h4 := Nat.eq_of_beq_eq_true h4
        obtain ⟨xs, n, hx1, hl, hxl, hf⟩ := trod_array hu hx
        obtain ⟨l, rfl, hw⟩ := ints_of cs fun i hi => by
          have := hf i (by omega)
          rw [h3, List.getElem?_eq_getElem (by omega)] at this
          obtain ⟨z, hz, _, hwz⟩ := DataW.trod_int he this
          refine ⟨z, ?_, hwz⟩
          have := congrArg (·[0]?) hz
          simpa [List.getElem?_take] using this
        exact ⟨l, ⟨by simp at hl; omega, rfl⟩, ⟨by simp at hl; omega, hw⟩, by rw [hx1]; have k := B.len (xs.map (·.1)); rw [List.length_map] at k; simp only [bd]; have k2 := B.ag (xs.map (·.1)); omega⟩
      · cases h
    · cases h
end

end Go.Fw

/- The picture as plain functions: what is seen at a position, and many cycles. -/
namespace Go.Proofs.Ytanaaecfghmmaaa
open Go.Fw
set_option linter.unusedVariables false
set_option linter.unusedSimpArgs false

abbrev bA (m : List Int) (i : Nat) : Int := m.getD i 0
def u8s (m : List Int) : Prop := ∀ x ∈ m, 0 ≤ x ∧ x < 256
instance (m : List Int) : Decidable (u8s m) := by unfold u8s; exact inferInstance
theorem u8s_get {m : List Int} (h : u8s m) (i : Nat) : 0 ≤ bA m i ∧ bA m i < 256 := by
  unfold bA
  rw [List.getD_eq_getElem?_getD]
  cases hi : m[i]? with
  | none => exact ⟨by decide, by decide⟩
  | some x => exact h x (List.mem_of_getElem? hi)
theorem u8s_of {l : List Int} (h : ∀ x ∈ l, Wf (.int .u8) x) : u8s l := by
  intro x hx
  have h2 : (decide (IntKind.u8.min ≤ x) && decide (x ≤ IntKind.u8.max)) = true := h x hx
  have e1 : IntKind.u8.min = 0 := by decide +kernel
  have e2 : IntKind.u8.max = 255 := by decide +kernel
  rw [e1, e2] at h2
  simp only [Bool.and_eq_true, decide_eq_true_eq] at h2
  exact ⟨h2.1, by omega⟩
def visB (pos : Int) : Bool := decide (pos % 64 < 48) && decide (pos / 64 < 32)
def cellF (m : List Int) (pos : Int) : Int := bA m (8 + pos / 64 / 8 * 6 + pos % 64 / 8).toNat % 16
def spriteB (m : List Int) (pos : Int) : Bool :=
  (decide (bA m 1 ≤ pos % 64) && decide (pos % 64 < bA m 1 + 8)) && ((decide (bA m 2 ≤ pos / 64) && decide (pos / 64 < bA m 2 + 8)) && decide (bA m 4 / 2 ^ (7 - (pos % 64 - bA m 1)).toNat % 2 = 1))
def shadeB (m : List Int) (pos : Int) (i : Nat) : Bool :=
  decide (pos % 64 = bA m 1 + i) && ((decide (bA m 2 ≤ pos / 64) && decide (pos / 64 < bA m 2 + 8)) && decide (bA m 4 / 2 ^ (7 - i) % 2 = 1))
theorem sprite_yes {m : List Int} {pos : Int} {i : Nat} (hi : i < 8) (h : shadeB m pos i = true) : spriteB m pos = true := by
  unfold shadeB at h
  simp only [Bool.and_eq_true, decide_eq_true_eq] at h
  obtain ⟨h1, h2, h3⟩ := h
  unfold spriteB
  simp only [Bool.and_eq_true, decide_eq_true_eq]
  refine ⟨⟨by omega, by omega⟩, h2, ?_⟩
  have e : (7 - (pos % 64 - bA m 1)).toNat = 7 - i := by omega
  rw [e]; exact h3
theorem sprite_no {m : List Int} {pos : Int} (h : ∀ i, i < 8 → shadeB m pos i = false) : spriteB m pos = false := by
  cases hs : spriteB m pos with
  | false => rfl
  | true =>
    exfalso
    unfold spriteB at hs
    simp only [Bool.and_eq_true, decide_eq_true_eq] at hs
    obtain ⟨⟨h1, h2⟩, h3, h4⟩ := hs
    have := h (pos % 64 - bA m 1).toNat (by omega)
    have ht : shadeB m pos (pos % 64 - bA m 1).toNat = true := by
      unfold shadeB
      simp only [Bool.and_eq_true, decide_eq_true_eq]
      refine ⟨by omega, h3, ?_⟩
      have e : (7 - (pos % 64 - bA m 1)).toNat = 7 - (pos % 64 - bA m 1).toNat := by omega
      rw [← e]; exact h4
    rw [ht] at this
    cases this
def colorF (m : List Int) (pos : Int) : Int := if visB pos = true then (if spriteB m pos = true then bA m 3 % 16 else cellF m pos) else bA m 0 % 16
def hitB (m : List Int) (pos : Int) : Bool := visB pos && (spriteB m pos && decide (cellF m pos ≠ 0))
theorem cellF_in (m : List Int) (pos : Int) : 0 ≤ cellF m pos ∧ cellF m pos < 16 := by unfold cellF; omega
/-- bits of a byte -/
theorem byte_bit : ∀ x, x < 256 → ∀ i, i < 8 → (shl .u8 ((x : Nat) : Int) ((i : Nat) : Int) ≥ 128 ↔ x / 2 ^ (7 - i) % 2 = 1) := by decide +kernel
theorem byte_bit2 : ∀ x, x < 256 → ∀ i, i < 8 → (land .u8 (shr .u8 ((x : Nat) : Int) ((i : Nat) : Int)) 1 = 1 ↔ x / 2 ^ i % 2 = 1) := by decide +kernel
theorem byte_bitI {x : Int} (h : 0 ≤ x ∧ x < 256) {i : Nat} (hi : i < 8) : shl .u8 x ((i : Nat) : Int) ≥ 128 ↔ x / 2 ^ (7 - i) % 2 = 1 := by
  obtain ⟨n, rfl⟩ := Int.eq_ofNat_of_zero_le h.1
  rw [byte_bit n (by omega) i hi]
  have e : ((n : Int) / 2 ^ (7 - i) % 2) = ((n / 2 ^ (7 - i) % 2 : Nat) : Int) := by simp
  rw [e]; omega
theorem byte_bitI2 {x : Int} (h : 0 ≤ x ∧ x < 256) {i : Nat} (hi : i < 8) : land .u8 (shr .u8 x ((i : Nat) : Int)) 1 = 1 ↔ x / 2 ^ i % 2 = 1 := by
  obtain ⟨n, rfl⟩ := Int.eq_ofNat_of_zero_le h.1
  rw [byte_bit2 n (by omega) i hi]
  have e : ((n : Int) / 2 ^ i % 2) = ((n / 2 ^ i % 2 : Nat) : Int) := by simp
  rw [e]; omega

theorem land15 : ∀ n, n < 256 → land .i64 ((n : Nat) : Int) 15 = ((n : Nat) : Int) % 16 := by decide +kernel
theorem land15I {x : Int} (h : 0 ≤ x ∧ x < 256) : land .i64 (IntKind.i64.wrap x) 15 = x % 16 := by
  rw [w64 (by omega) (by omega)]
  obtain ⟨n, rfl⟩ := Int.eq_ofNat_of_zero_le h.1
  exact land15 n (by omega)
def vP (N : List Int) : Int := if N.length = 0 then 2559 else N.getD 0 0 % 2560
abbrev vH (N : List Int) : Int := N.getD 1 0 % 2
def vN (N : List Int) : List Int := [vP N, vH N]
def vM (M : List Int) : List Int := over (List.replicate 32 0) M 0
theorem vP_in (N : List Int) : 0 ≤ vP N ∧ vP N < 2560 := by unfold vP; split <;> omega
theorem vM_len (M : List Int) : (vM M).length = 32 := by unfold vM; rw [over_length]; rfl
theorem vM_u8 {M : List Int} (h : u8s M) : u8s (vM M) := by
  intro x hx
  have : ∀ (l : List Int) (i : Nat), (∀ y ∈ l, 0 ≤ y ∧ y < 256) → ∀ y ∈ over l M i, 0 ≤ y ∧ y < 256 := by
    intro l
    induction l with
    | nil => intro i _ y hy; cases hy
    | cons d l ih =>
      intro i hl y hy
      rcases List.mem_cons.1 hy with rfl | hy
      · rw [List.getD_eq_getElem?_getD]
        cases hi : M[i]? with
        | none => exact hl d (List.mem_cons_self)
        | some z => exact h z (List.mem_of_getElem? hi)
      · exact ih (i + 1) (fun y hy => hl y (List.mem_cons_of_mem _ hy)) y hy
  exact this _ 0 (fun y hy => by rw [List.eq_of_mem_replicate hy]; decide) x hx
theorem vM_idem {m : List Int} (h : m.length = 32) : vM m = m := by
  unfold vM
  rw [over_eq]
  simp only [List.length_replicate, List.drop_replicate, h, Nat.sub_self, List.replicate_zero, List.append_nil, List.drop_zero]
  exact List.take_of_length_le (by omega)
theorem cell_at {pos : Int} (hp0 : 0 ≤ pos) (hp1 : pos < 2560) : IntKind.i64.wrap (IntKind.i64.wrap (8 + IntKind.i64.wrap (IntKind.i64.wrap (Int.tdiv (IntKind.i64.wrap (Int.tdiv pos 64)) 8) * 6)) + IntKind.i64.wrap (Int.tdiv (Int.tmod pos 64) 8)) = 8 + pos / 64 / 8 * 6 + pos % 64 / 8 := by
  have eq64 : IntKind.i64.wrap (Int.tdiv pos 64) = pos / 64 := by rw [Int.tdiv_eq_ediv_of_nonneg hp0, w64 (by omega) (by omega)]
  have er64 : Int.tmod pos 64 = pos % 64 := Int.tmod_eq_emod_of_nonneg hp0
  rw [eq64, er64, Int.tdiv_eq_ediv_of_nonneg (show 0 ≤ pos / 64 by omega), Int.tdiv_eq_ediv_of_nonneg (show 0 ≤ pos % 64 by omega), w64 (x := pos / 64 / 8) (by omega) (by omega), w64 (x := pos / 64 / 8 * 6) (by omega) (by omega),
    w64 (x := 8 + pos / 64 / 8 * 6) (by omega) (by omega), w64 (x := pos % 64 / 8) (by omega) (by omega), w64 (by omega) (by omega)]
def tickV (m : List Int) : List Int → List Int
  | [p, h] => [(p + 1) % 2560, if hitB m ((p + 1) % 2560) = true then 1 else h]
  | l => l
theorem vN_idem {p h : Int} (hp : 0 ≤ p ∧ p < 2560) (hh : 0 ≤ h ∧ h < 2) : vN [p, h] = [p, h] := by
  show [p % 2560, h % 2] = _
  rw [Int.emod_eq_of_lt hp.1 hp.2, Int.emod_eq_of_lt hh.1 hh.2]
def anyH (m : List Int) (p : Int) (n : Nat) : Bool := (List.range n).any fun j => hitB m ((p + 1 + j) % 2560)
theorem anyH_succ (m : List Int) (p : Int) (n : Nat) : anyH m p (n + 1) = (anyH m p n || hitB m ((p + 1 + n) % 2560)) := by
  unfold anyH
  rw [List.range_succ, List.any_append]; simp
theorem iterV (m : List Int) {p h : Int} (hp : 0 ≤ p ∧ p < 2560) : ∀ n, iterF (tickV m) n [p, h] = [(p + n) % 2560, if anyH m p n = true then 1 else h]
  | 0 => by
    rw [iterF]
    have e : (p + ((0 : Nat) : Int)) % 2560 = p := by omega
    rw [e]; rfl
  | n + 1 => by
    rw [iterF_succ, iterV m hp n, tickV, anyH_succ]
    have e : ((p + (n : Int)) % 2560 + 1) % 2560 = (p + ((n + 1 : Nat) : Int)) % 2560 := by omega
    have e2 : (p + 1 + (n : Int)) % 2560 = (p + ((n + 1 : Nat) : Int)) % 2560 := by omega
    rw [e, e2]
    cases hitB m ((p + ((n + 1 : Nat) : Int)) % 2560) <;> cases anyH m p n <;> rfl
theorem anyH_mono {m : List Int} {p : Int} {a b : Nat} (h : a ≤ b) (ha : anyH m p a = true) : anyH m p b = true := by
  unfold anyH at *
  rw [List.any_eq_true] at *
  obtain ⟨j, hj, hh⟩ := ha
  exact ⟨j, List.mem_range.2 (by have := List.mem_range.1 hj; omega), hh⟩
theorem anyH_all {m : List Int} {p : Int} {a : Nat} (h : 2560 ≤ a) : anyH m p a = anyH m p 2560 := by
  cases h2 : anyH m p 2560 with
  | true => exact anyH_mono h h2
  | false =>
    cases ha : anyH m p a with
    | false => rfl
    | true =>
      exfalso
      unfold anyH at ha h2
      rw [List.any_eq_true] at ha
      obtain ⟨j, hj, hh⟩ := ha
      rw [List.any_eq_false] at h2
      refine h2 (j % 2560) (List.mem_range.2 (by omega)) ?_
      have e : (p + 1 + ((j % 2560 : Nat) : Int)) % 2560 = (p + 1 + (j : Int)) % 2560 := by omega
      rw [e]; exact hh
theorem iterV_far (m : List Int) {p h : Int} (hp : 0 ≤ p ∧ p < 2560) {n : Nat} (hn : 5120 < n) : iterF (tickV m) n [p, h] = iterF (tickV m) (2560 + n % 2560) [p, h] := by
  rw [iterV m hp, iterV m hp, anyH_all (by omega), anyH_all (a := 2560 + n % 2560) (by omega)]
  have e : (p + (n : Int)) % 2560 = (p + ((2560 + n % 2560 : Nat) : Int)) % 2560 := by omega
  rw [e]

end Go.Proofs.Ytanaaecfghmmaaa

/- The chip that reads and writes disks as plain functions: cycles. -/
namespace Go.Proofs.Ytanaaecfghmmaaa
open Go.Fw
set_option linter.unusedVariables false
set_option linter.unusedSimpArgs false

abbrev DS := List Int × List Int
def iterA {α : Type} (f : α → α) : Nat → α → α
  | 0, l => l
  | n + 1, l => iterA f n (f l)
theorem iterA_add {α : Type} (f : α → α) : ∀ (m n : Nat) (l : α), iterA f (m + n) l = iterA f n (iterA f m l)
  | 0, n, l => by rw [Nat.zero_add]; rfl
  | m + 1, n, l => by
    have e : m + 1 + n = (m + n) + 1 := by omega
    rw [e]
    exact iterA_add f m n (f l)
theorem iterA_succ {α : Type} (f : α → α) (n : Nat) (l : α) : iterA f (n + 1) l = f (iterA f n l) := by
  rw [iterA_add f n 1]; rfl
theorem iterA_fix {α : Type} {f : α → α} {l : α} (h : f l = l) : ∀ n, iterA f n l = l
  | 0 => rfl
  | n + 1 => by rw [iterA, h]; exact iterA_fix h n

def atI (k t s i : Int) : Int := 256 * k - 256 + 64 * t + 16 * s + i
def toI (c t : Int) : Int := if c = 1 then (if t + 1 < 4 then t + 1 else t) else (if 0 ≤ t - 1 then t - 1 else t)
def doneF : DS → DS
  | ([k, t, c, s, i, l, d, r, o, x], m) =>
    if c < 3 then ([k, toI c t, 0, s, i, 0, d, r, o, x], m)
    else if i + 1 = 16 then ([k, t, 0, s, 0, 0, if c = 3 then m.getD (atI k t s i).toNat 0 else d, if c = 4 then 0 else 1, if r = 1 then 1 else o, x], if c = 3 then m else m.set (atI k t s i).toNat d)
    else ([k, t, c, s, i + 1, 20, if c = 3 then m.getD (atI k t s i).toNat 0 else d, 1, if r = 1 then 1 else o, x], if c = 3 then m else m.set (atI k t s i).toNat d)
  | s => s
def turnF : DS → DS
  | ([k, t, c, s, i, l, d, r, o, x], m) =>
    if c > 0 then
      (if c > 2 ∧ k = 0 then ([k, t, 0, s, i, l, d, r, o, x], m)
       else if l > 1 then ([k, t, c, s, i, l - 1, d, r, o, x], m)
       else doneF ([k, t, c, s, i, l, d, r, o, x], m))
    else ([k, t, c, s, i, l, d, r, o, x], m)
  | s => s
inductive dOk (q : Nat) : List Int → Prop
  | mk {k t c s i l d r o x : Int} (hk : 0 ≤ k ∧ k ≤ q ∧ k < 256) (ht : 0 ≤ t ∧ t < 4) (hc : 0 ≤ c ∧ c ≤ 4) (hs : 0 ≤ s ∧ s < 4) (hi : 0 ≤ i ∧ i < 16) (hl : 0 ≤ l ∧ l < 64) (hd : 0 ≤ d ∧ d < 256) (hr : 0 ≤ r ∧ r < 2) (ho : 0 ≤ o ∧ o < 2) (hx : 0 ≤ x ∧ x < 2) : dOk q [k, t, c, s, i, l, d, r, o, x]
theorem dOk.len {q : Nat} {l : List Int} (h : dOk q l) : l.length = 10 := by cases h; rfl
theorem dN_ok (N : List Int) (q : Nat) : dOk q (dN N q) := by
  refine ⟨?_, by omega, ?_, by omega, by omega, by omega, by omega, by omega, by omega, by omega⟩
  · split <;> omega
  · split <;> omega
theorem dN_idem {q : Nat} {l : List Int} (h : dOk q l) : dN l q = l := by
  cases h with
  | mk hk ht hc hs hi hl hd hr ho hx =>
    rename_i k t c s i l d r o x
    show [if k % 256 > q then 0 else k % 256, t % 4, if c % 8 > 4 then 0 else c % 8, s % 4, i % 16, l % 64, d % 256, r % 2, o % 2, x % 2] = _
    rw [Int.emod_eq_of_lt hk.1 hk.2.2, Int.emod_eq_of_lt ht.1 ht.2, Int.emod_eq_of_lt (a := c) (b := 8) hc.1 (by omega), Int.emod_eq_of_lt hs.1 hs.2, Int.emod_eq_of_lt hi.1 hi.2, Int.emod_eq_of_lt hl.1 hl.2, Int.emod_eq_of_lt hd.1 hd.2,
      Int.emod_eq_of_lt hr.1 hr.2, Int.emod_eq_of_lt ho.1 ho.2, Int.emod_eq_of_lt hx.1 hx.2, if_neg (by omega), if_neg (by omega)]
structure DOk (q : Nat) (s : DS) : Prop where
  n : dOk q s.1
  m : s.2.length = q * 256
  u : u8s s.2
theorem u8s_set {m : List Int} (h : u8s m) {d : Int} (hd : 0 ≤ d ∧ d < 256) (i : Nat) : u8s (m.set i d) := by
  intro x hx
  rcases List.mem_or_eq_of_mem_set hx with h1 | rfl
  · exact h x h1
  · exact hd
theorem toI_in {c t : Int} (h : 0 ≤ t ∧ t < 4) : 0 ≤ toI c t ∧ toI c t < 4 := by
  unfold toI
  split <;> split <;> omega
theorem doneF_ok {q : Nat} {s : DS} (h : DOk q s) : DOk q (doneF s) := by
  obtain ⟨n, m⟩ := s
  obtain ⟨hn, hm, hu⟩ := h
  have hm : m.length = q * 256 := hm
  have hu : u8s m := hu
  cases hn with
  | mk hk ht hc hs hi hl hd hr ho hx =>
    rename_i k t c s i l d r o x
    have hb := u8s_get hu (atI k t s i).toNat
    have hb : 0 ≤ m.getD (atI k t s i).toNat 0 ∧ m.getD (atI k t s i).toNat 0 < 256 := hb
    have hdd : 0 ≤ (if c = 3 then m.getD (atI k t s i).toNat 0 else d) ∧ (if c = 3 then m.getD (atI k t s i).toNat 0 else d) < 256 := by split <;> assumption
    have hoo : 0 ≤ (if r = 1 then 1 else o) ∧ (if r = 1 then 1 else o) < 2 := by split <;> omega
    have hlen : (if c = 3 then m else m.set (atI k t s i).toNat d).length = q * 256 := by split <;> simp [hm]
    have huu : u8s (if c = 3 then m else m.set (atI k t s i).toNat d) := by
      split
      · exact hu
      · exact u8s_set hu hd _
    rw [doneF]
    by_cases h1 : c < 3
    · rw [if_pos h1]
      exact ⟨⟨hk, toI_in ht, by omega, hs, hi, by omega, hd, hr, ho, hx⟩, hm, hu⟩
    · rw [if_neg h1]
      by_cases h2 : i + 1 = 16
      · rw [if_pos h2]
        exact ⟨⟨hk, ht, by omega, hs, by omega, by omega, hdd, by split <;> omega, hoo, hx⟩, hlen, huu⟩
      · rw [if_neg h2]
        exact ⟨⟨hk, ht, hc, hs, by omega, by omega, hdd, by omega, hoo, hx⟩, hlen, huu⟩
theorem turnF_ok {q : Nat} {s : DS} (h : DOk q s) : DOk q (turnF s) := by
  obtain ⟨n, m⟩ := s
  have h0 := h
  obtain ⟨hn, hm, hu⟩ := h
  have hm : m.length = q * 256 := hm
  have hu : u8s m := hu
  cases hn with
  | mk hk ht hc hs hi hl hd hr ho hx =>
    rename_i k t c s i l d r o x
    rw [turnF]
    by_cases h1 : c > 0
    · rw [if_pos h1]
      by_cases h2 : c > 2 ∧ k = 0
      · rw [if_pos h2]
        exact ⟨⟨hk, ht, by omega, hs, hi, hl, hd, hr, ho, hx⟩, hm, hu⟩
      · rw [if_neg h2]
        by_cases h3 : l > 1
        · rw [if_pos h3]
          exact ⟨⟨hk, ht, hc, hs, hi, by omega, hd, hr, ho, hx⟩, hm, hu⟩
        · rw [if_neg h3]; exact doneF_ok h0
    · rw [if_neg h1]; exact h0
theorem iterT_ok {q : Nat} {s : DS} (h : DOk q s) : ∀ n, DOk q (iterA turnF n s)
  | 0 => h
  | n + 1 => by rw [iterA_succ]; exact turnF_ok (iterT_ok h n)
theorem skip_idle {k t c s i l d r o x : Int} {m : List Int} (hc : ¬ c > 0) (n : Nat) : iterA turnF n ([k, t, c, s, i, l, d, r, o, x], m) = ([k, t, c, s, i, l, d, r, o, x], m) :=
  iterA_fix (by rw [turnF, if_neg hc]) n
theorem skip_none {k t c s i l d r o x : Int} {m : List Int} (hc : c > 2) (hk : k = 0) {n : Nat} (hn : 0 < n) : iterA turnF n ([k, t, c, s, i, l, d, r, o, x], m) = ([k, t, 0, s, i, l, d, r, o, x], m) := by
  obtain ⟨n, rfl⟩ : ∃ n', n = n' + 1 := ⟨n - 1, by omega⟩
  rw [iterA, turnF, if_pos (by omega), if_pos ⟨hc, hk⟩]
  exact skip_idle (by decide) n
theorem skip_wait {k t c s i d r o x : Int} {m : List Int} (hc : c > 0) (hk : ¬ (c > 2 ∧ k = 0)) : ∀ (n : Nat) (l : Int), (n : Int) < l → iterA turnF n ([k, t, c, s, i, l, d, r, o, x], m) = ([k, t, c, s, i, l - n, d, r, o, x], m)
  | 0, l, _ => by rw [iterA]; simp
  | n + 1, l, h => by
    rw [iterA, turnF, if_pos hc, if_neg hk, if_pos (by omega), skip_wait hc hk n (l - 1) (by omega)]
    have : l - 1 - (n : Int) = l - ((n + 1 : Nat) : Int) := by omega
    rw [this]
theorem doneF_left {k t c s i l l' d r o x : Int} {m : List Int} : doneF ([k, t, c, s, i, l, d, r, o, x], m) = doneF ([k, t, c, s, i, l', d, r, o, x], m) := rfl
theorem skip_done {k t c s i l d r o x : Int} {m : List Int} (hc : c > 0) (hk : ¬ (c > 2 ∧ k = 0)) (hl : 0 ≤ l) {n : Nat} (hn : 0 < n) (h : ¬ (n : Int) < l) :
    iterA turnF n ([k, t, c, s, i, l, d, r, o, x], m) = iterA turnF ((n : Int) - max 1 l).toNat (doneF ([k, t, c, s, i, 0, d, r, o, x], m)) := by
  have e : n = (l - 1).toNat + (((n : Int) - max 1 l).toNat + 1) := by omega
  rw [e, iterA_add]
  have e2 : iterA turnF (l - 1).toNat ([k, t, c, s, i, l, d, r, o, x], m) = ([k, t, c, s, i, l - ((l - 1).toNat : Nat), d, r, o, x], m) := by
    by_cases h0 : l = 0
    · subst h0
      show iterA turnF 0 _ = _
      rw [iterA]; simp
    · exact skip_wait hc hk _ _ (by omega)
  have e3 : (((l - 1).toNat + (((n : Int) - max 1 l).toNat + 1) : Nat) : Int) = n := by omega
  rw [e2, e3, iterA, turnF, if_pos hc, if_neg hk, if_neg (by omega)]
  rw [doneF_left (l' := 0)]
def placeDF : List Int → Int
  | [k, t, c, s, i, l, d, r, o, x] => atI k t s i
  | _ => 0
def canDo (s : DS) : Prop := 0 < s.1.getD 2 0 ∧ (2 < s.1.getD 2 0 → 0 < s.1.getD 0 0) ∧ s.1.getD 5 0 = 0
theorem atI_in {k t s i : Int} {q : Nat} (hk : 0 < k ∧ k ≤ q) (ht : 0 ≤ t ∧ t < 4) (hs : 0 ≤ s ∧ s < 4) (hi : 0 ≤ i ∧ i < 16) : 0 ≤ atI k t s i ∧ atI k t s i < ((q * 256 : Nat) : Int) := by
  unfold atI; omega
theorem atI_small {k t s i : Int} (hk : 0 ≤ k ∧ k < 256) (ht : 0 ≤ t ∧ t < 4) (hs : 0 ≤ s ∧ s < 4) (hi : 0 ≤ i ∧ i < 16) : -256 ≤ atI k t s i ∧ atI k t s i < 65536 := by
  unfold atI; omega
theorem doneF_lt {k t c s i l d r o x : Int} {m : List Int} (h : c < 3) : doneF ([k, t, c, s, i, l, d, r, o, x], m) = ([k, toI c t, 0, s, i, 0, d, r, o, x], m) := by rw [doneF, if_pos h]
theorem doneF_16 {k t c s i l d r o x : Int} {m : List Int} (h : ¬ c < 3) (h2 : i + 1 = 16) : doneF ([k, t, c, s, i, l, d, r, o, x], m) =
    ([k, t, 0, s, 0, 0, if c = 3 then m.getD (atI k t s i).toNat 0 else d, if c = 4 then 0 else 1, if r = 1 then 1 else o, x], if c = 3 then m else m.set (atI k t s i).toNat d) := by rw [doneF, if_neg h, if_pos h2]
theorem doneF_go {k t c s i l d r o x : Int} {m : List Int} (h : ¬ c < 3) (h2 : ¬ i + 1 = 16) : doneF ([k, t, c, s, i, l, d, r, o, x], m) =
    ([k, t, c, s, i + 1, 20, if c = 3 then m.getD (atI k t s i).toNat 0 else d, 1, if r = 1 then 1 else o, x], if c = 3 then m else m.set (atI k t s i).toNat d) := by rw [doneF, if_neg h, if_neg h2]
theorem l10 {a b c d e f g h i j a' b' c' d' e' f' g' h' i' j' : Int} (h1 : a = a') (h2 : b = b') (h3 : c = c') (h4 : d = d') (h5 : e = e') (h6 : f = f') (h7 : g = g') (h8 : h = h') (h9 : i = i') (h10 : j = j') : [a, b, c, d, e, f, g, h, i, j] = [a', b', c', d', e', f', g', h', i', j'] := by rw [h1, h2, h3, h4, h5, h6, h7, h8, h9, h10]
theorem turn_none {k t c s i l d r o x : Int} {m : List Int} (hc : c > 2) (hk : k = 0) : turnF ([k, t, c, s, i, l, d, r, o, x], m) = ([k, t, 0, s, i, l, d, r, o, x], m) := by rw [turnF, if_pos (by omega), if_pos ⟨hc, hk⟩]
theorem turn_wait {k t c s i l d r o x : Int} {m : List Int} (hc : c > 0) (hk : ¬ (c > 2 ∧ k = 0)) (hl : l > 1) : turnF ([k, t, c, s, i, l, d, r, o, x], m) = ([k, t, c, s, i, l - 1, d, r, o, x], m) := by rw [turnF, if_pos hc, if_neg hk, if_pos hl]
theorem turn_done {k t c s i l d r o x : Int} {m : List Int} (hc : c > 0) (hk : ¬ (c > 2 ∧ k = 0)) (hl : ¬ l > 1) : turnF ([k, t, c, s, i, l, d, r, o, x], m) = doneF ([k, t, c, s, i, l, d, r, o, x], m) := by rw [turnF, if_pos hc, if_neg hk, if_neg hl]
theorem at_turn {k t s i : Int} (hk : 0 ≤ k ∧ k < 256) (ht : 0 ≤ t ∧ t < 4) (hs : 0 ≤ s ∧ s < 4) (hi : 0 ≤ i ∧ i < 16) :
    IntKind.i64.wrap (IntKind.i64.wrap (IntKind.i64.wrap (IntKind.i64.wrap (IntKind.i64.wrap (256 * k) - 256) + IntKind.i64.wrap (64 * t)) + IntKind.i64.wrap (16 * s)) + i) = atI k t s i := by
  rw [w64 (x := 256 * k) (by omega) (by omega), w64 (x := 256 * k - 256) (by omega) (by omega), w64 (x := 64 * t) (by omega) (by omega), w64 (x := 256 * k - 256 + 64 * t) (by omega) (by omega), w64 (x := 16 * s) (by omega) (by omega),
    w64 (x := 256 * k - 256 + 64 * t + 16 * s) (by omega) (by omega), w64 (by omega) (by omega)]; rfl
theorem set_at {m : List Int} {a b : Int} {x y : Int} (h : a = b) (h2 : x = y) : m.set a.toNat x = m.set b.toNat y := by rw [h, h2]
theorem get_at {m : List Int} {a b : Int} (h : a = b) : m.getD a.toNat 0 = m.getD b.toNat 0 := by rw [h]
theorem or1 {o r : Int} (ho : 0 ≤ o ∧ o < 2) (hr : 0 ≤ r ∧ r < 2) : lor .i64 o r = if r = 1 then 1 else o := by
  have a1 : o = 0 ∨ o = 1 := by omega
  have a2 : r = 0 ∨ r = 1 := by omega
  rcases a1 with rfl | rfl <;> rcases a2 with rfl | rfl <;> decide +kernel

end Go.Proofs.Ytanaaecfghmmaaa

/- The chip that reads and writes disks: what is done when its time has come. -/
namespace Go.Proofs.Ytanaaecfghmmaaa
open Go.Fw
set_option linter.unusedVariables false
set_option linter.unusedSimpArgs false
set_option maxRecDepth 100000

theorem wrap8b {x : Int} (h : 0 ≤ x ∧ x < 256) : IntKind.u8.wrap x = x := by
  show x % 256 = x
  omega
theorem blk_d {l l' m m' : List Int} (h : l = l') (h2 : m = m') : [some (Blk.arr (.int .i64) l), some (Blk.arr (.int .u8) m)] = [some (Blk.arr (.int .i64) l'), some (Blk.arr (.int .u8) m')] := by rw [h, h2]
def placeDS : PSpec := ⟨[gl], fun (l, _) => (some (∃ q, dOk q l), I (placeDF l), [])⟩
def ownsD : List V1 → List Blk → Option DS := fun a b => (match a, b with | [.c (.own 0), .c (.own 1)], [.arr (.int .i64) l, .arr (.int .u8) m] => some (l, m) | _, _ => none)
theorem ownsD_ok {a : List V1} {b : List Blk} {x : DS} (h : ownsD a b = some x) : a = [.c (.own 0), .c (.own 1)] ∧ b = [.arr (.int .i64) x.1, .arr (.int .u8) x.2] := by
  unfold ownsD at h
  split at h
  · injection h with h; subst h; exact ⟨rfl, rfl⟩
  · cases h
theorem atI_w {k t s i : Int} (h : -256 ≤ atI k t s i ∧ atI k t s i < 65536) : IntKind.i64.wrap (atI k t s i) = atI k t s i := w64 (by omega) (by omega)
theorem pl_eq (k t c s i l d r o x : Int) : placeDF [k, t, c, s, i, l, d, r, o, x] = atI k t s i := rfl
theorem toI_drive {c t : Int} (ht : 0 ≤ t ∧ t < 4) (hc : c = 1 ∨ c = 2) : imax 0 (imin (IntKind.i64.wrap (IntKind.i64.wrap (t + 3) - IntKind.i64.wrap (2 * c))) 3) = toI c t := by
  rw [w64 (x := t + 3) (by omega) (by omega), w64 (x := 2 * c) (by omega) (by omega), w64 (by omega) (by omega)]
  unfold toI imax imin
  (repeat' split) <;> omega
def doneS : WSpec := ⟨DS, fun _ => [.c (.own 0), .c (.own 1)], fun s => [.arr (.int .i64) s.1, .arr (.int .u8) s.2], ownsD,
  fun s => (some ((∃ q, DOk q s) ∧ canDo s), .tup [], [some (.arr (.int .i64) (doneF s).1), some (.arr (.int .u8) (doneF s).2)], [])⟩
def turnsS : WSpec := ⟨DS, fun _ => [.c (.own 0), .c (.own 1)], fun s => [.arr (.int .i64) s.1, .arr (.int .u8) s.2], ownsD,
  fun s => (some ((∃ q, DOk q s) ∧ 0 < s.1.getD 2 0), .tup [], [some (.arr (.int .i64) (turnF s).1), some (.arr (.int .u8) (turnF s).2)], [])⟩
theorem toI_ref {c t : Int} (ht : 0 ≤ t ∧ t < 4) (hc : c = 1 ∨ c = 2) : IntKind.i64.wrap (t + [1, -1].getD (c - 1).toNat (dflt (.int .i64))) = if c = 1 then t + 1 else t - 1 := by
  rcases hc with rfl | rfl
  · show IntKind.i64.wrap (t + 1) = _
    rw [w64 (by omega) (by omega)]; rfl
  · show IntKind.i64.wrap (t + -1) = _
    rw [w64 (by omega) (by omega)]; rfl
end Go.Proofs.Ytanaaecfghmmaaa

/- The chip that reads and writes disks: cycles, both ways. -/
namespace Go.Proofs.Ytanaaecfghmmaaa
open Go.Fw
set_option linter.unusedVariables false
set_option linter.unusedSimpArgs false
set_option maxRecDepth 100000

theorem turn0_m {l : List Int} (h : dOk 0 l) : (turnF (l, [])).2 = [] := by
  cases h with
  | mk hk ht hc hs hi hl hd hr ho hx =>
  rename_i k t c s i l d r o x
  rw [turnF]
  by_cases h1 : c > 0
  · rw [if_pos h1]
    by_cases h2 : c > 2 ∧ k = 0
    · rw [if_pos h2]
    · rw [if_neg h2]
      by_cases h3 : l > 1
      · rw [if_pos h3]
      · rw [if_neg h3, doneF_lt (by omega)]
  · rw [if_neg h1]
def ownsR : List V1 → List Blk → Option (List Int) := fun a b => (match a, b with | [.c (.own 0), .c (.ro (.int .u8) [])], [.arr (.int .i64) l] => some l | _, _ => none)
theorem ownsR_ok {a : List V1} {b : List Blk} {x : List Int} (h : ownsR a b = some x) : a = [.c (.own 0), .c (.ro (.int .u8) [])] ∧ b = [.arr (.int .i64) x] := by
  unfold ownsR at h
  split at h
  · injection h with h; subst h; exact ⟨rfl, rfl⟩
  · cases h
def turns0S : WSpec := ⟨List Int, fun _ => [.c (.own 0), .c (.ro (.int .u8) [])], fun s => [.arr (.int .i64) s], ownsR,
  fun s => (some (dOk 0 s ∧ 0 < s.getD 2 0), .tup [], [some (.arr (.int .i64) (turnF (s, [])).1)], [])⟩
theorem dOkN (N : List Int) (q : Nat) : dOk q (dN N q) := dN_ok N q
theorem u8s_take {M : List Int} (h : u8s M) (n : Nat) : u8s (M.take n) := fun x hx => h x (List.mem_of_mem_take hx)
theorem dM_u8 {M : List Int} (h : u8s M) : u8s (dM M) := u8s_take h _
theorem DOkN (N : List Int) {M : List Int} (h : u8s M) : DOk (qF M) (dN N (qF M), dM M) := ⟨dN_ok N _, dM_len M, dM_u8 h⟩
theorem turn_zero {l m : List Int} (h : l.length = 10) (hc : ¬ l.getD 2 0 > 0) : turnF (l, m) = (l, m) := by
  match l, h with
  | [k, t, c, s, i, l, d, r, o, x], _ =>
    rw [turnF]
    exact if_neg hc
def dtickedR0S : PSpec := ⟨[gC, gD], fun (c, d, _) => (some (c.2.1 = 8 ∧ List.length d.2 ≤ 140737488355328 ∧ qF d.2 = 0), .agg [.own 0, .ro (.int .u8) []], [.arr (.int .i64) (turnF (dN d.1 (qF d.2), [])).1])⟩
def dtickedR1S : PSpec := ⟨[gC, gD], fun (c, d, _) => (some (c.2.1 = 8 ∧ List.length d.2 ≤ 140737488355328 ∧ 0 < qF d.2 ∧ u8s d.2), .agg [.own 0, .ro (.int .u8) (turnF (dN d.1 (qF d.2), dM d.2)).2], [.arr (.int .i64) (turnF (dN d.1 (qF d.2), dM d.2)).1])⟩
def dtickedS : PSpec := ⟨[gC, gD], fun (c, d, _) => (some (c.2.1 = 8 ∧ List.length d.2 ≤ 140737488355328 ∧ u8s d.2), .agg [.own 0, .ro (.int .u8) (turnF (dN d.1 (qF d.2), dM d.2)).2], [.arr (.int .i64) (turnF (dN d.1 (qF d.2), dM d.2)).1])⟩
def skipD (k : Int) (s : DS) : DS := iterA turnF k.toNat s
def dskipS : PSpec := ⟨[gD, gi], fun (d, k, _) => (some (List.length d.2 ≤ 140737488355328 ∧ u8s d.2 ∧ k ≤ 1500), .agg [.own 0, .own 1], [.arr (.int .i64) (skipD k (dN d.1 (qF d.2), dM d.2)).1, .arr (.int .u8) (skipD k (dN d.1 (qF d.2), dM d.2)).2])⟩
def dtickS : PSpec := ⟨[gD], fun (d, _) => (some (List.length d.2 ≤ 140737488355328 ∧ u8s d.2), .agg [.own 0, .own 1], [.arr (.int .i64) (turnF (dN d.1 (qF d.2), dM d.2)).1, .arr (.int .u8) (turnF (dN d.1 (qF d.2), dM d.2)).2])⟩
end Go.Proofs.Ytanaaecfghmmaaa

/- bakeref1.Shade. -/
namespace Go.Proofs.Ytanaaecfghmmaaa
open Go.Fw
set_option linter.unusedVariables false
set_option linter.unusedSimpArgs false
set_option maxRecDepth 100000

theorem tup_ib2 {a c : Int} {b d : Bool} (h1 : a = c) (h2 : b = d) : AV.tup [I1 a, .c (bv b)] = AV.tup [I1 c, .c (bv d)] := by rw [h1, h2]
def shadeS : PSpec := ⟨[gb, gi], fun (m, pos, _) => (some (List.length m = 32 ∧ u8s m ∧ 0 ≤ pos ∧ pos < 2560), .tup [I1 (colorF m pos), .c (bv (hitB m pos))], [])⟩
end Go.Proofs.Ytanaaecfghmmaaa

/- The chip that draws: the functions of package video that look at a picture. -/
namespace Go.Proofs.Ytanaaecfghmmaaa
open Go.Fw
set_option linter.unusedVariables false
set_option linter.unusedSimpArgs false
set_option maxRecDepth 100000

def visS : PSpec := ⟨[gi], fun (pos, _) => (some (0 ≤ pos ∧ pos < 2560), .cell (bv (visB pos)), [])⟩
def cellS : PSpec := ⟨[gb, gi], fun (m, pos, _) => (some (List.length m = 32 ∧ u8s m ∧ 0 ≤ pos ∧ pos < 2560 ∧ visB pos = true), I (cellF m pos), [])⟩
def spriteS : PSpec := ⟨[gb, gi], fun (m, pos, _) => (some (List.length m = 32 ∧ u8s m ∧ 0 ≤ pos ∧ pos < 2560), .cell (bv (spriteB m pos)), [])⟩
theorem not_vis {b : Bool} (h : (!b) = false) : b = true := by cases b; cases h; rfl
theorem not_vis2 {b : Bool} (h : (!b) = true) : b = false := by cases b; rfl; cases h
def colorS : PSpec := ⟨[gb, gi], fun (m, pos, _) => (some (List.length m = 32 ∧ u8s m ∧ 0 ≤ pos ∧ pos < 2560), I (colorF m pos), [])⟩
def hitsS : PSpec := ⟨[gb, gi], fun (m, pos, _) => (some (List.length m = 32 ∧ u8s m ∧ 0 ≤ pos ∧ pos < 2560), .cell (bv (hitB m pos)), [])⟩
end Go.Proofs.Ytanaaecfghmmaaa

/- The chip that draws: its state, cycles, registers. -/
namespace Go.Proofs.Ytanaaecfghmmaaa
open Go.Fw
set_option linter.unusedVariables false
set_option linter.unusedSimpArgs false
set_option maxRecDepth 100000

abbrev devM : AV := .agg [.own 0, .own 1]
theorem tup_v {a b c d : Int} (h1 : a = c) (h2 : b = d) : AV.tup [I1 a, I1 b, .c (.own 0)] = AV.tup [I1 c, I1 d, .c (.own 0)] := by rw [h1, h2]
theorem blk_v {l l' m m' : List Int} (h : l = l') (h2 : m = m') : [some (Blk.arr (.int .i64) l), some (Blk.arr (.int .u8) m)] = [some (Blk.arr (.int .i64) l'), some (Blk.arr (.int .u8) m')] := by rw [h, h2]
theorem wrap8 {x : Int} (h0 : 0 ≤ x) (h1 : x < 256) : IntKind.u8.wrap x = x := by
  show x % 256 = x
  omega
theorem tup_rv {x y : Int} (h2 : x = y) : AV.tup [.agg [.own 0, .own 1], I1 x] = AV.tup [.agg [.own 0, .own 1], I1 y] := by rw [h2]
def vfitS : PSpec := ⟨[gD], fun (d, _) => (none, .tup [I1 (vP d.1), I1 (vH d.1), .c (.own 0)], [.arr (.int .u8) (vM d.2)])⟩
def vmadeS : WSpec := ⟨Int × Int × List Int, fun x => [.c (iv .i64 x.1), .c (iv .i64 x.2.1), .c (.own 0)], fun x => [.arr (.int .u8) x.2.2],
  fun a b => (match a, b with | [.c (.imm (.int .i64 p)), .c (.imm (.int .i64 h)), .c (.own 0)], [.arr (.int .u8) m] => some (p, h, m) | _, _ => none),
  fun x => (none, .agg [.own 1, .own 0], [some (.arr (.int .u8) x.2.2)], [.arr (.int .i64) [x.1, x.2.1]])⟩
def vnewS : PSpec := ⟨[], fun _ => (none, devM, [.arr (.int .i64) [2559, 0], .arr (.int .u8) (List.replicate 32 0)])⟩
def vskipS : PSpec := ⟨[gD, gi], fun (d, k, _) => (some (u8s d.2 ∧ k ≤ 4611686018427387904), devM, [.arr (.int .i64) (iterF (tickV (vM d.2)) k.toNat [vP d.1, vH d.1]), .arr (.int .u8) (vM d.2)])⟩
def vtickS : PSpec := ⟨[gD], fun (d, _) => (some (u8s d.2), devM, [.arr (.int .i64) (tickV (vM d.2) [vP d.1, vH d.1]), .arr (.int .u8) (vM d.2)])⟩
def voutS : PSpec := ⟨[gD], fun (d, _) => (some (u8s d.2), I (colorF (vM d.2) (vP d.1)), [])⟩
def vwM (m : List Int) (a k : Int) : List Int := if (0 ≤ a ∧ a < 32) ∧ (a < 5 ∨ a > 7) then m.set a.toNat (k % 256) else m
def vwriteS : PSpec := ⟨[gD, gi, gi], fun (d, a, k, _) => (none, devM, [.arr (.int .i64) [vP d.1, vH d.1], .arr (.int .u8) (vwM (vM d.2) a k)])⟩
def vrF (N m : List Int) (a : Int) : Int := if a = 5 then vP N / 64 else if a = 6 then vP N % 64 else if a = 7 then vH N else if 0 ≤ a ∧ a < 32 then bA m a.toNat else 0
def vrN (N : List Int) (a : Int) : List Int := [vP N, if a = 7 then 0 else vH N]
def vreadS : PSpec := ⟨[gD, gi], fun (d, a, _) => (some (u8s d.2), .tup [.agg [.own 0, .own 1], I1 (vrF d.1 (vM d.2) a)], [.arr (.int .i64) (vrN d.1 a), .arr (.int .u8) (vM d.2)])⟩
def diffV (m : List Int) (p k : Int) : Bool := decide (colorF m ((p + k) % 2560) ≠ colorF m p)
def restD (m : List Int) (p : Int) : Nat → Int
  | 0 => 100000
  | n + 1 => if diffV m p (2560 - n) = true then 2560 - n - 1 else restD m p n
def vnextF (m : List Int) (p : Int) : Int := restD m p 2560
theorem restD_go (m : List Int) (p : Int) {n : Nat} (h : diffV m p (2560 - n) = false) : restD m p (n + 1) = restD m p n := by
  rw [restD, h]; rfl
theorem restD_is (m : List Int) (p : Int) {n : Nat} (h : diffV m p (2560 - n) = true) : restD m p (n + 1) = 2560 - n - 1 := by
  rw [restD, h]; rfl
def vnextS : PSpec := ⟨[gD], fun (d, _) => (some (u8s d.2), I (vnextF (vM d.2) (vP d.1)), [])⟩
def videosS : PSpec := ⟨[], fun _ => (none, .cell (bv true), [])⟩
end Go.Proofs.Ytanaaecfghmmaaa

/- The memories: windows, banks, how many bytes there are; their states in form. -/
namespace Go.Proofs.Ytanaaecfghmmaaa
open Go.Fw
set_option linter.unusedVariables false
set_option linter.unusedSimpArgs false
set_option linter.constructorNameAsVariable false
set_option maxRecDepth 100000

def i64 (x : Int) : Prop := -9223372036854775808 ≤ x ∧ x ≤ 9223372036854775807
def cP (c : Cv) : Prop := i64 c.2.2.1 ∧ i64 c.2.2.2.1 ∧ List.length c.2.2.2.2 ≤ 140737488351232
def dP (d : Dv) : Prop := List.length d.2 ≤ 140737488355328 ∧ u8s d.2
def winI (c : Cv) : Int := max 1 (min (max c.2.2.2.1 1) 4097 - 1)
theorem winI_in (c : Cv) : 1 ≤ winI c ∧ winI c ≤ 4096 := by unfold winI; omega
def bankI (c : Cv) : Int := max 1 (((List.length c.2.2.2.2 : Nat) + winI c - 1) / winI c)
theorem bankI_in {c : Cv} (h : List.length c.2.2.2.2 ≤ 140737488351232) : 1 ≤ bankI c ∧ bankI c ≤ 140737488355328 ∧ bankI c * winI c ≤ 140737488355328 := by
  obtain ⟨h1, h2⟩ := winI_in c
  have h3 : ((List.length c.2.2.2.2 : Nat) + winI c - 1) / winI c * winI c ≤ (List.length c.2.2.2.2 : Nat) + winI c - 1 := Int.ediv_mul_le _ (by omega)
  have h4 : ((List.length c.2.2.2.2 : Nat) + winI c - 1) / winI c ≤ (List.length c.2.2.2.2 : Nat) + winI c - 1 := Int.ediv_le_self _ (by omega)
  unfold bankI
  rcases Int.le_total 1 (((List.length c.2.2.2.2 : Nat) + winI c - 1) / winI c) with h | h
  · rw [Int.max_eq_right h]
    omega
  · rw [Int.max_eq_left h]
    omega
def bytesI (c : Cv) : Int := if c.2.1 = 2 then bankI c * winI c else max 0 (min c.2.2.2.1 65536)
theorem bytesI_in {c : Cv} (h : List.length c.2.2.2.2 ≤ 140737488351232) : 0 ≤ bytesI c ∧ bytesI c ≤ 140737488355328 := by
  obtain ⟨h1, h2, h3⟩ := bankI_in h
  obtain ⟨h4, h5⟩ := winI_in c
  have h6 : 0 ≤ bankI c * winI c := Int.mul_nonneg (by omega) (by omega)
  unfold bytesI
  split
  · omega
  · omega
def memM (c : Cv) (M : List Int) : List Int := over (List.replicate (bytesI c).toNat 0) M 0
def memN (c : Cv) (N : List Int) : List Int := if c.2.1 = 2 then [N.getD 0 0 % bankI c] else []
theorem memM_len (c : Cv) (M : List Int) : (memM c M).length = (bytesI c).toNat := by
  unfold memM; rw [over_length, List.length_replicate]

def windowS : PSpec := ⟨[gC], fun (c, _) => (none, I (winI c), [])⟩
def cBanksS : PSpec := ⟨[gC], fun (c, _) => (some (List.length c.2.2.2.2 ≤ 140737488351232), I (bankI c), [])⟩
def cBytesS : PSpec := ⟨[gC], fun (c, _) => (some (List.length c.2.2.2.2 ≤ 140737488351232), I (bytesI c), [])⟩
theorem limitF_eq (n a b : Int) (h : a ≤ b) : limitF n a b = max a (min n b) := by
  unfold limitF; (repeat' split) <;> omega

/-- how many rounds bring a number to zero or below -/
theorem banks_end {l k w : Int} (hw : 1 ≤ w) (hk : 0 ≤ k) (hl : 0 ≤ l) (h1 : l - k * w ≤ 0) (h2 : k = 0 ∨ 0 < l - (k - 1) * w) : max 1 (min k 1152921504606846976) = max 1 (min ((l + w - 1) / w) 1152921504606846976) := by
  rcases h2 with rfl | h2
  · have : l = 0 := by omega
    subst this
    have : (0 + w - 1) / w = 0 := Int.ediv_eq_zero_of_lt (by omega) (by omega)
    rw [this]
  · have e : (l + w - 1) / w = k := by
      rw [Int.sub_mul] at h2
      have : l + w - 1 = (l + w - 1 - k * w) + k * w := by omega
      rw [this, Int.add_mul_ediv_right _ _ (by omega), Int.ediv_eq_zero_of_lt (by omega) (by omega)]
      omega
    rw [e]
def bankedS : PSpec := ⟨[gC], fun (c, _) => (some (cP c), .tup [I1 (bankI c), I1 (winI c)], [])⟩
theorem copy_eq (n : Int) (M : List Int) (h : IntKind.i64.wrap n = n) : over (List.replicate (IntKind.i64.wrap n).toNat 0) M 0 = over (List.replicate n.toNat 0) M 0 := by rw [h]
/-- the state of a memory -/
def cfitS : PSpec := ⟨[gC, gD], fun (c, d, _) => (some (cP c), devM, [.arr (.int .i64) (memN c d.1), .arr (.int .u8) (memM c d.2)])⟩
/-- the reference's state of a memory: it may be without bytes -/
def mformedS : PSpec := ⟨[gC, gD], fun (c, d, _) => (some (cP c ∧ (c.2.1 = 0 ∨ c.2.1 = 1 ∨ c.2.1 = 2)), devM, [.arr (.int .i64) (memN c d.1), .arr (.int .u8) (memM c d.2)])⟩
/-- no kind at all -/
def xformedS : PSpec := ⟨[gC, gD], fun (c, d, _) => (some (c.2.1 < 0 ∨ 8 < c.2.1), devM, [.arr (.int .i64) [], .arr (.int .u8) []])⟩
end Go.Proofs.Ytanaaecfghmmaaa

/- The chip that reads and writes disks, for the reference: results in blocks of their own. -/
namespace Go.Proofs.Ytanaaecfghmmaaa
open Go.Fw
set_option linter.unusedVariables false
set_option linter.unusedSimpArgs false
set_option linter.constructorNameAsVariable false
set_option maxRecDepth 100000

def dformedOS : PSpec := ⟨[gC, gD], fun (c, d, _) => (some (c.2.1 = 8 ∧ List.length d.2 ≤ 140737488355328), .agg [.own 0, .own 1], [.arr (.int .i64) (dN d.1 (qF d.2)), .arr (.int .u8) (dM d.2)])⟩
def dloadedOS : PSpec := ⟨[gC, gD, gi], fun (c, d, a, _) => (some (c.2.1 = 8 ∧ List.length d.2 ≤ 140737488355328), .tup [.agg [.own 0, .own 1], I1 (drF d.1 (qF d.2) a)], [.arr (.int .i64) (drN d.1 (qF d.2) a), .arr (.int .u8) (dM d.2)])⟩
def dstoredOS : PSpec := ⟨[gC, gD, gi, gi], fun (c, d, a, k, _) => (some (c.2.1 = 8 ∧ List.length d.2 ≤ 140737488355328), .agg [.own 0, .own 1], [.arr (.int .i64) (dwN d.1 (qF d.2) a k), .arr (.int .u8) (dM d.2)])⟩
def dgivenOS : PSpec := ⟨[gC, gD, gi], fun (c, d, k, _) => (some (c.2.1 = 8 ∧ List.length d.2 ≤ 140737488355328), .agg [.own 0, .own 1], [.arr (.int .i64) (dcN d.1 (qF d.2) k), .arr (.int .u8) (dM d.2)])⟩
def dtickedOS : PSpec := ⟨[gC, gD], fun (c, d, _) => (some (c.2.1 = 8 ∧ List.length d.2 ≤ 140737488355328 ∧ u8s d.2), .agg [.own 0, .own 1], [.arr (.int .i64) (turnF (dN d.1 (qF d.2), dM d.2)).1, .arr (.int .u8) (turnF (dN d.1 (qF d.2), dM d.2)).2])⟩
end Go.Proofs.Ytanaaecfghmmaaa

/- The chip that draws, by the document. -/
namespace Go.Proofs.Ytanaaecfghmmaaa
open Go.Fw
set_option linter.unusedVariables false
set_option linter.unusedSimpArgs false
set_option maxRecDepth 100000

def vidC : Cv := (ByteArray.empty, 6, 0, 0, [])
theorem vmods_ok : ([2560, 2] : List Int).length ≤ 1000 ∧ ∀ m ∈ ([2560, 2] : List Int), 0 < m ∧ m ≤ 4611686018427387904 := by decide
def vformedS : PSpec := ⟨[gC, gD], fun (c, d, _) => (some (c.2.1 = 6), devM, [.arr (.int .i64) (vN d.1), .arr (.int .u8) (vM d.2)])⟩
def vfreshS : PSpec := ⟨[gC], fun (c, _) => (some (c.2.1 = 6), devM, [.arr (.int .i64) [2559, 0], .arr (.int .u8) (List.replicate 32 0)])⟩
def vloadedS : PSpec := ⟨[gC, gD, gi], fun (c, d, a, _) => (some (c.2.1 = 6 ∧ u8s d.2), .tup [.agg [.own 0, .own 1], I1 (vrF d.1 (vM d.2) a)], [.arr (.int .i64) (vrN d.1 a), .arr (.int .u8) (vM d.2)])⟩
def vstoredS : PSpec := ⟨[gC, gD, gi, gi], fun (c, d, a, k, _) => (some (c.2.1 = 6), devM, [.arr (.int .i64) [vP d.1, vH d.1], .arr (.int .u8) (vwM (vM d.2) a k)])⟩
def vtickedS : PSpec := ⟨[gC, gD], fun (c, d, _) => (some (c.2.1 = 6 ∧ u8s d.2), devM, [.arr (.int .i64) (tickV (vM d.2) (vN d.1)), .arr (.int .u8) (vM d.2)])⟩
def vshowsS : PSpec := ⟨[gC, gD], fun (c, d, _) => (some (c.2.1 = 6 ∧ u8s d.2), I (colorF (vM d.2) (vP d.1)), [])⟩
def vrestsS : PSpec := ⟨[gC, gD], fun (c, d, _) => (some (c.2.1 = 6 ∧ u8s d.2), I (vnextF (vM d.2) (vP d.1)), [])⟩
end Go.Proofs.Ytanaaecfghmmaaa

/- All kinds of chips at once: what each chip's functions give, in blocks of their own. -/
namespace Go.Proofs.Ytanaaecfghmmaaa
open Go.Fw
set_option linter.unusedVariables false
set_option linter.unusedSimpArgs false
set_option linter.constructorNameAsVariable false
set_option maxRecDepth 100000

abbrev devM1 : V1 := .agg [.own 0, .own 1]
def tnewOS : PSpec := ⟨[], fun _ => (none, devM, [.arr (.int .i64) [0, 0, 0, 0], .arr (.int .u8) []])⟩
def tskipOS : PSpec := ⟨[gD, gi], fun (d, k, _) => (some (k ≤ 4611686018427387904), devM, [.arr (.int .i64) (iterT k.toNat (timN d.1)), .arr (.int .u8) []])⟩
def twriteOS : PSpec := ⟨[gD, gi, gi], fun (d, a, k, _) => (none, devM, [.arr (.int .i64) (twN d.1 a k), .arr (.int .u8) []])⟩
def treadOS : PSpec := ⟨[gD, gi], fun (d, a, _) => (none, .tup [devM1, I1 (trF d.1 a)], [.arr (.int .i64) (trN d.1 a), .arr (.int .u8) []])⟩
def pnewOS : PSpec := ⟨[], fun _ => (none, devM, [.arr (.int .i64) [255, 0, 0], .arr (.int .u8) []])⟩
def pinOS : PSpec := ⟨[gD, gi], fun (d, k, _) => (none, devM, [.arr (.int .i64) (pinN d.1 k), .arr (.int .u8) []])⟩
def pwriteOS : PSpec := ⟨[gD, gi, gi], fun (d, a, k, _) => (none, devM, [.arr (.int .i64) (pwN d.1 a k), .arr (.int .u8) []])⟩
def preadOS : PSpec := ⟨[gD, gi], fun (d, a, _) => (none, .tup [devM1, I1 (preadF d.1 a)], [.arr (.int .i64) (portN d.1), .arr (.int .u8) []])⟩
def snewOS : PSpec := ⟨[], fun _ => (none, devM, [.arr (.int .i64) [0, 0, 0, 0, 0, 0, 0, 0], .arr (.int .u8) []])⟩
def sskipOS : PSpec := ⟨[gD, gi], fun (d, k, _) => (some (k ≤ 4611686018427387904), devM, [.arr (.int .i64) (iterF tickS k.toNat (serN d.1)), .arr (.int .u8) []])⟩
def sinOS : PSpec := ⟨[gD, gi], fun (d, k, _) => (none, devM, [.arr (.int .i64) (sinN d.1 k), .arr (.int .u8) []])⟩
def swriteOS : PSpec := ⟨[gD, gi, gi], fun (d, a, k, _) => (none, devM, [.arr (.int .i64) (swN d.1 a k), .arr (.int .u8) []])⟩
def sreadOS : PSpec := ⟨[gD, gi], fun (d, a, _) => (none, .tup [devM1, I1 (srF d.1 a)], [.arr (.int .i64) (srN d.1 a), .arr (.int .u8) []])⟩
def onewOS : PSpec := ⟨[], fun _ => (none, devM, [.arr (.int .i64) (List.replicate 12 0), .arr (.int .u8) []])⟩
def oskipOS : PSpec := ⟨[gD, gi], fun (d, k, _) => (some (k ≤ 10000000), devM, [.arr (.int .i64) (iterF tickW k.toNat (sndN d.1)), .arr (.int .u8) []])⟩
def owriteOS : PSpec := ⟨[gD, gi, gi], fun (d, a, k, _) => (none, devM, [.arr (.int .i64) (owF d.1 a k), .arr (.int .u8) []])⟩
def oreadOS : PSpec := ⟨[gD, gi], fun (d, a, _) => (none, .tup [devM1, I1 (orF d.1 a)], [.arr (.int .i64) (sndN d.1), .arr (.int .u8) []])⟩
theorem kinds (k : Int) : k = 0 ∨ k = 1 ∨ k = 2 ∨ k = 3 ∨ k = 4 ∨ k = 5 ∨ k = 6 ∨ k = 7 ∨ k = 8 ∨ (k < 0 ∨ 8 < k) := by omega
def sel {α : Type} (k : Int) (m t p s v o r x : α) : α := if 0 ≤ k ∧ k ≤ 2 then m else if k = 3 then t else if k = 4 then p else if k = 5 then s else if k = 6 then v else if k = 7 then o else if k = 8 then r else x
theorem sel_x {α : Type} {k : Int} (h : k < 0 ∨ 8 < k) (m t p s v o r x : α) : sel k m t p s v o r x = x := by
  unfold sel
  rw [if_neg (by omega), if_neg (by omega), if_neg (by omega), if_neg (by omega), if_neg (by omega), if_neg (by omega), if_neg (by omega)]

theorem kx3 {k : Int} (h : k < 0 ∨ 8 < k) : k < 3 ∨ k = 4 ∨ 8 < k := by omega
theorem k3 {k : Int} (h : k < 3 ∨ k = 4 ∨ 8 < k) : k < 3 ∨ k = 4 ∨ 8 < k := h

-- what a state is in its form, a cycle later, ..

def formF (c : Cv) (d : Dv) : Dv := sel c.2.1 (memN c d.1, memM c d.2) (timN d.1, []) (portN d.1, []) (serN d.1, []) (vN d.1, vM d.2) (sndN d.1, []) (dN d.1 (qF d.2), dM d.2) ([], [])
def tickF (c : Cv) (d : Dv) : Dv := sel c.2.1 (memN c d.1, memM c d.2) (tickT (timN d.1), []) (portN d.1, []) (tickS (serN d.1), []) (tickV (vM d.2) (vN d.1), vM d.2) (tickW (sndN d.1), []) (turnF (dN d.1 (qF d.2), dM d.2)) ([], [])

def kFormedS : PSpec := ⟨[gC, gD], fun (c, d, _) => (some (cP c ∧ List.length d.2 ≤ 140737488355328), devM, [.arr (.int .i64) (formF c d).1, .arr (.int .u8) (formF c d).2])⟩
def kTickedS : PSpec := ⟨[gC, gD], fun (c, d, _) => (some (cP c ∧ dP d), devM, [.arr (.int .i64) (tickF c d).1, .arr (.int .u8) (tickF c d).2])⟩
/-- the kinds that nothing happens to -/
def kTicked0S : PSpec := ⟨[gC, gD], fun (c, d, _) => (some (cP c ∧ dP d ∧ (c.2.1 < 3 ∨ c.2.1 = 4 ∨ 8 < c.2.1)), devM, [.arr (.int .i64) (formF c d).1, .arr (.int .u8) (formF c d).2])⟩
/-- a cycle, many times -/
def skipF (c : Cv) (d : Dv) (k : Int) : Dv := sel c.2.1 (memN c d.1, memM c d.2) (iterT k.toNat (timN d.1), []) (portN d.1, []) (iterF tickS k.toNat (serN d.1), []) (iterF (tickV (vM d.2)) k.toNat (vN d.1), vM d.2) (iterF tickW k.toNat (sndN d.1), []) (skipD k (dN d.1 (qF d.2), dM d.2)) ([], [])
def firstS : PSpec := ⟨[gD], fun (d, _) => (none, I (d.1.getD 0 0), [])⟩
theorem pin_first (N : List Int) : pinN N (N.getD 0 0) = portN N := rfl

def cSkipS : PSpec := ⟨[gC, gD, gi], fun (c, d, k, _) => (some (cP c ∧ dP d ∧ k ≤ 1500), devM, [.arr (.int .i64) (skipF c d k).1, .arr (.int .u8) (skipF c d k).2])⟩
end Go.Proofs.Ytanaaecfghmmaaa

/- Memories read and written. -/
namespace Go.Proofs.Ytanaaecfghmmaaa
open Go.Fw
set_option linter.unusedVariables false
set_option linter.unusedSimpArgs false
set_option linter.constructorNameAsVariable false
set_option maxRecDepth 100000

theorem u8s_over {l M : List Int} (h1 : u8s l) (h2 : u8s M) : u8s (over l M 0) := by
  rw [over_eq]
  intro x hx
  rcases List.mem_append.1 hx with hx | hx
  · exact h2 x (List.mem_of_mem_drop (List.mem_of_mem_take hx))
  · exact h1 x (List.mem_of_mem_drop hx)
theorem u8s_zero (n : Nat) : u8s (List.replicate n 0) := fun x hx => by
  rw [List.eq_of_mem_replicate hx]; decide
theorem memM_u8 (c : Cv) {M : List Int} (h : u8s M) : u8s (memM c M) := u8s_over (u8s_zero _) h
theorem u8s_getD {M : List Int} (h : u8s M) (n : Nat) : 0 ≤ M.getD n 0 ∧ M.getD n 0 < 256 := by
  by_cases hn : n < M.length
  · rw [List.getD_eq_getElem?_getD, List.getElem?_eq_getElem hn]
    exact h _ (List.getElem_mem hn)
  · rw [List.getD_eq_getElem?_getD, List.getElem?_eq_none (by omega)]; decide
theorem u8s_w {M : List Int} (h : u8s M) (n : Nat) : IntKind.i64.wrap (M.getD n 0) = M.getD n 0 := by
  have := u8s_getD h n
  exact w64 (by omega) (by omega)
def placeI (c : Cv) (d : Dv) (a : Int) : Int := if c.2.1 = 2 then (if a < 1 ∨ a > winI c then -1 else d.1.getD 0 0 * winI c + a - 1) else if a < 0 ∨ a ≥ (List.length d.2 : Nat) then -1 else a
def placeP (c : Cv) (d : Dv) : Prop := cP c ∧ (c.2.1 = 2 → 0 < List.length d.1 ∧ 0 ≤ d.1.getD 0 0 ∧ d.1.getD 0 0 < bankI c)
theorem bank_mul {n b w : Int} (h0 : 0 ≤ n) (h1 : n < b) (hw : 1 ≤ w) : 0 ≤ n * w ∧ n * w + w ≤ b * w := by
  have h2 : (n + 1) * w ≤ b * w := Int.mul_le_mul_of_nonneg_right (by omega) (by omega)
  have h3 : 0 ≤ n * w := Int.mul_nonneg h0 (by omega)
  rw [Int.add_mul, Int.one_mul] at h2
  exact ⟨h3, h2⟩
def mPlaceS : PSpec := ⟨[gC, gD, gi], fun (c, d, a, _) => (some (placeP c d), I (placeI c d a), [])⟩
/-- the state of a memory, in its form -/
def memD (c : Cv) (d : Dv) : Dv := (memN c d.1, memM c d.2)
theorem mem_placeP {c : Cv} (d : Dv) (h : cP c) : placeP c (memD c d) := by
  refine ⟨h, fun hk => ?_⟩
  obtain ⟨b1, b2, b3⟩ := bankI_in h.2.2
  unfold memD memN
  rw [if_pos hk]
  exact ⟨by show 0 < 1; omega, Int.emod_nonneg _ (by omega), Int.emod_lt_of_pos _ (by omega)⟩
theorem mem_place_in {c : Cv} (d : Dv) (h : cP c) {a : Int} (h2 : placeI c (memD c d) a ≥ 0) : placeI c (memD c d) a < ((memM c d.2).length : Nat) := by
  obtain ⟨b1, b2, b3⟩ := bankI_in h.2.2
  obtain ⟨w1, w2⟩ := winI_in c
  obtain ⟨_, hx⟩ := mem_placeP d h
  unfold placeI at h2 ⊢
  by_cases hk : c.2.1 = 2
  · rw [if_pos hk] at h2 ⊢
    by_cases ha : a < 1 ∨ a > winI c
    · rw [if_pos ha] at h2; omega
    · rw [if_neg ha]
      obtain ⟨_, n0, n1⟩ := hx hk
      obtain ⟨m1, m2⟩ := bank_mul n0 n1 w1
      rw [memM_len, bytesI, if_pos hk]
      omega
  · rw [if_neg hk] at h2 ⊢
    by_cases ha : a < 0 ∨ a ≥ ((memD c d).2.length : Nat)
    · rw [if_pos ha] at h2; omega
    · rw [if_neg ha]
      show a < ((memD c d).2.length : Nat)
      omega
def memRd (c : Cv) (d : Dv) (a : Int) : Int := if placeI c (memD c d) a ≥ 0 then (memM c d.2).getD (placeI c (memD c d) a).toNat 0 else if c.2.1 = 2 ∧ a = 0 then (memN c d.1).getD 0 0 else 0
def cReadMS : PSpec := ⟨[gC, gD, gi], fun (c, d, a, _) => (some (cP c ∧ dP d), .tup [devM1, I1 (memRd c d a)], [.arr (.int .i64) (memN c d.1), .arr (.int .u8) (memM c d.2)])⟩
def memWr (c : Cv) (d : Dv) (a k : Int) : Dv := if c.2.1 = 1 then memD c d else if placeI c (memD c d) a ≥ 0 then (memN c d.1, (memM c d.2).set (placeI c (memD c d) a).toNat (k % 256)) else if c.2.1 = 2 ∧ a = 0 then ((memN c d.1).set 0 (k % 256 % bankI c), memM c d.2) else memD c d
def cWriteMS : PSpec := ⟨[gC, gD, gi, gi], fun (c, d, a, k, _) => (some (cP c), devM, [.arr (.int .i64) (memWr c d a k).1, .arr (.int .u8) (memWr c d a k).2])⟩
def loadD (c : Cv) (d : Dv) (a : Int) : Dv := sel c.2.1 (memD c d) (trN d.1 a, []) (portN d.1, []) (srN d.1 a, []) (vrN d.1 a, vM d.2) (sndN d.1, []) (drN d.1 (qF d.2) a, dM d.2) ([], [])
def loadI (c : Cv) (d : Dv) (a : Int) : Int := sel c.2.1 (memRd c d a) (trF d.1 a) (preadF d.1 a) (srF d.1 a) (vrF d.1 (vM d.2) a) (orF d.1 a) (drF d.1 (qF d.2) a) 0
def storeF (c : Cv) (d : Dv) (a k : Int) : Dv := sel c.2.1 (memWr c d a k) (twN d.1 a k, []) (pwN d.1 a k, []) (swN d.1 a k, []) ([vP d.1, vH d.1], vwM (vM d.2) a k) (owF d.1 a k, []) (dwN d.1 (qF d.2) a k, dM d.2) ([], [])
def cReadS : PSpec := ⟨[gC, gD, gi], fun (c, d, a, _) => (some (cP c ∧ dP d), .tup [devM1, I1 (loadI c d a)], [.arr (.int .i64) (loadD c d a).1, .arr (.int .u8) (loadD c d a).2])⟩
theorem tup_x {r r' : Int} (h : r = r') : AV.tup [devM1, I1 r] = AV.tup [devM1, I1 r'] := by rw [h]
def cWriteS : PSpec := ⟨[gC, gD, gi, gi], fun (c, d, a, k, _) => (some (cP c ∧ dP d), devM, [.arr (.int .i64) (storeF c d a k).1, .arr (.int .u8) (storeF c d a k).2])⟩
def cTickS : PSpec := ⟨[gC, gD], fun (c, d, _) => (some (cP c ∧ dP d), devM, [.arr (.int .i64) (tickF c d).1, .arr (.int .u8) (tickF c d).2])⟩
theorem skip_one (c : Cv) (d : Dv) : skipF c d 1 = tickF c d := by
  obtain ⟨cn, ck, cb, cs, cd⟩ := c
  obtain ⟨N, M⟩ := d
  rcases kinds ck with rfl | rfl | rfl | rfl | rfl | rfl | rfl | rfl | rfl | hx
  all_goals first
    | rfl
    | (unfold skipF tickF; rw [sel_x hx, sel_x hx])
end Go.Proofs.Ytanaaecfghmmaaa

/- Chips: which are valid. -/
namespace Go.Proofs.Ytanaaecfghmmaaa
open Go.Fw
set_option linter.unusedVariables false
set_option linter.unusedSimpArgs false
set_option linter.constructorNameAsVariable false
set_option maxRecDepth 100000

def cmemoryS : PSpec := ⟨[gi], fun (k, _) => (none, .cell (bv (decide (k = 0) || (decide (k = 1) || decide (k = 2)))), [])⟩
theorem cmemory_ok : GoodF Try.prog 108 cmemoryS.spec := by
  have hT := tab_ok (fs := []) tree_ok
  have hP : SpecsOk Try.prog (tab tree []) := specs_nil
  refine cmemoryS.good (fn := Try.f108) hT hP Try.func108 (by kernel_rfl) rfl fun (k : Int) _ => ?_
  repeat' first
    | (refine Go.mk ?_; conv => whnf)
    | refine Need.go ?_ ?_
    | refine NilG.go (fun _ => ?_) (fun _ => ?_)
    | refine Br.dec (fun _ => ?_) (fun _ => ?_)
    | refine Br.go (fun _ => ?_) (fun _ => ?_)
    | refine draw_go hT hP mixed ?_
    | refine round_go hT hP ?_
  all_goals (refine .mk [] [] _ rfl rfl rfl rfl rfl rfl (imm_bool ?_))
  all_goals (simp_all)
  all_goals (by_cases h : k = 2 <;> simp [h])
def sizeK (k : Int) : Int := sel k 0 4 2 3 32 8 4 0
def csizeS : PSpec := ⟨[gi], fun (k, _) => (none, I (sizeK k), [])⟩
theorem csize_ok : GoodF Try.prog 109 csizeS.spec := by
  have hT := tab_ok (fs := []) tree_ok
  have hP : SpecsOk Try.prog (tab tree []) := specs_nil
  refine csizeS.good (fn := Try.f109) hT hP Try.func109 (by kernel_rfl) rfl fun (k : Int) _ => ?_
  rcases kinds k with rfl | rfl | rfl | rfl | rfl | rfl | rfl | rfl | rfl | hx
  all_goals
    repeat' first
      | (refine Go.mk ?_; conv => whnf)
      | refine Need.go ?_ ?_
      | refine NilG.go (fun _ => ?_) (fun _ => ?_)
      | refine Br.dec (fun _ => ?_) (fun _ => ?_)
      | refine Br.go (fun _ => ?_) (fun _ => ?_)
      | refine draw_go hT hP mixed ?_
      | refine round_go hT hP ?_
  all_goals first
    | exact .mk [] [] _ rfl rfl rfl rfl rfl rfl rfl
    | (exfalso; dsimp only [gi, Den] at *; omega)
    | exact .mk [] [] _ rfl rfl rfl rfl rfl rfl (imm_int (sel_x hx ..).symm)
    | skip

def cpuStr : ByteArray := ⟨#[99, 112, 117]⟩
def chipBad (k s : Int) (n : Nat) : Bool := (decide (k = 0 ∨ k = 1) && decide ((n : Int) > s)) || ((decide (3 ≤ k ∧ k ≤ 7) && decide (n > 0)) || (decide (k = 8) && decide (¬ n % 256 = 0)))
def chipE (c : Cv) : Int :=
  if nameB (bytesOf c.1) = false then 15 else if strEq c.1 cpuStr = true then 20 else if c.2.1 < 0 ∨ 8 < c.2.1 then 8
  else if (c.2.1 ≤ 2 ∧ c.2.2.2.1 < (if c.2.1 = 2 then 2 else 1)) ∨ (2 < c.2.1 ∧ ¬ c.2.2.2.1 = sizeK c.2.1) then 1 else if c.2.2.2.1 > 4096 ∨ List.length c.2.2.2.2 > 4096 then 2
  else if c.2.2.1 < 0 ∨ c.2.2.1 > IntKind.i64.wrap (65536 - c.2.2.2.1) then 19 else if chipBad c.2.1 c.2.2.2.1 (List.length c.2.2.2.2) = true then 3 else 0
def chipES : PSpec := ⟨[gC], fun (c, _) => (some (cP c), I (chipE c), [])⟩
set_option maxHeartbeats 8000000 in
theorem cCheck_ok : GoodF Try.prog 83 chipES.spec := by
  have hT := tab_ok (fs := [(19, nameS.spec), (108, cmemoryS.spec), (109, csizeS.spec)]) tree_ok
  have hP : SpecsOk Try.prog (tab tree [(19, nameS.spec), (108, cmemoryS.spec), (109, csizeS.spec)]) := specs_cons tName_ok (specs_cons cmemory_ok (specs_cons csize_ok specs_nil))
  refine chipES.good (fn := Try.f83) hT hP Try.func83 (by kernel_rfl) rfl fun (c : Cv) hp => ?_
  obtain ⟨hb, hs, hl⟩ : cP c := hp _ rfl
  obtain ⟨cn, ck, cb, cs, cd⟩ := c
  obtain ⟨hs1, hs2⟩ : -9223372036854775808 ≤ cs ∧ cs ≤ 9223372036854775807 := hs
  clear hp hb hl
  have hcn : cpuStr = ⟨#[99, 112, 117]⟩ := rfl
  have htm : Int.tmod (cd.length : Int) 256 = ((cd.length % 256 : Nat) : Int) := by rw [Int.tmod_eq_emod_of_nonneg (by omega)]; omega
  rcases kinds ck with rfl | rfl | rfl | rfl | rfl | rfl | rfl | rfl | rfl | hx
  rotate_right
  · have h8 : ¬ (¬ ck < 0 ∧ ¬ ck ≥ 9) := by omega
    repeat' first
      | (exfalso; exact h8 ⟨by assumption, by assumption⟩)
      | (refine Go.mk ?_; conv => whnf)
      | refine Need.go ?_ ?_
      | refine NilG.go (fun _ => ?_) (fun _ => ?_)
      | refine Br.dec (fun _ => ?_) (fun _ => ?_)
      | refine Br.go (fun _ => ?_) (fun _ => ?_)
      | refine draw_go hT hP mixed ?_
      | refine round_go hT hP ?_
    all_goals (try dsimp only [castL_eq] at *)
    all_goals clear hT hP
    all_goals (refine .mk [] [] _ rfl rfl rfl rfl rfl rfl (imm_int ?_))
    all_goals (show _ = chipE (cn, ck, cb, cs, cd))
    all_goals (unfold chipE)
    all_goals (dsimp only)
    all_goals (simp_all)
    all_goals (intros; omega)
  · repeat' first
      | (refine Go.mk ?_; conv => whnf)
      | refine Need.go ?_ ?_
      | refine NilG.go (fun _ => ?_) (fun _ => ?_)
      | refine Br.dec (fun _ => ?_) (fun _ => ?_)
      | refine Br.go (fun _ => ?_) (fun _ => ?_)
      | refine draw_go hT hP mixed ?_
      | refine round_go hT hP ?_
    all_goals (try dsimp only [castL_eq] at *)
    all_goals first
      | exact of_decide_eq_true rfl
      | skip
    all_goals clear hT hP
    all_goals (refine .mk [] [] _ rfl rfl rfl rfl rfl rfl (imm_int ?_))
    all_goals (show _ = chipE (cn, 0, cb, cs, cd))
    all_goals (simp_all [chipE, chipBad, sizeK, sel])
    all_goals (intros; (repeat' split) <;> omega)
  · repeat' first
      | (refine Go.mk ?_; conv => whnf)
      | refine Need.go ?_ ?_
      | refine NilG.go (fun _ => ?_) (fun _ => ?_)
      | refine Br.dec (fun _ => ?_) (fun _ => ?_)
      | refine Br.go (fun _ => ?_) (fun _ => ?_)
      | refine draw_go hT hP mixed ?_
      | refine round_go hT hP ?_
    all_goals (try dsimp only [castL_eq] at *)
    all_goals first
      | exact of_decide_eq_true rfl
      | skip
    all_goals clear hT hP
    all_goals (refine .mk [] [] _ rfl rfl rfl rfl rfl rfl (imm_int ?_))
    all_goals (show _ = chipE (cn, 1, cb, cs, cd))
    all_goals (simp_all [chipE, chipBad, sizeK, sel])
    all_goals (intros; (repeat' split) <;> omega)
  · repeat' first
      | (refine Go.mk ?_; conv => whnf)
      | refine Need.go ?_ ?_
      | refine NilG.go (fun _ => ?_) (fun _ => ?_)
      | refine Br.dec (fun _ => ?_) (fun _ => ?_)
      | refine Br.go (fun _ => ?_) (fun _ => ?_)
      | refine draw_go hT hP mixed ?_
      | refine round_go hT hP ?_
    all_goals (try dsimp only [castL_eq] at *)
    all_goals first
      | exact of_decide_eq_true rfl
      | skip
    all_goals clear hT hP
    all_goals (refine .mk [] [] _ rfl rfl rfl rfl rfl rfl (imm_int ?_))
    all_goals (show _ = chipE (cn, 2, cb, cs, cd))
    all_goals (simp_all [chipE, chipBad, sizeK, sel])
    all_goals (intros; (repeat' split) <;> omega)
  · repeat' first
      | (refine Go.mk ?_; conv => whnf)
      | refine Need.go ?_ ?_
      | refine NilG.go (fun _ => ?_) (fun _ => ?_)
      | refine Br.dec (fun _ => ?_) (fun _ => ?_)
      | refine Br.go (fun _ => ?_) (fun _ => ?_)
      | refine draw_go hT hP mixed ?_
      | refine round_go hT hP ?_
    all_goals (try dsimp only [castL_eq] at *)
    all_goals first
      | exact of_decide_eq_true rfl
      | skip
    all_goals clear hT hP
    all_goals (refine .mk [] [] _ rfl rfl rfl rfl rfl rfl (imm_int ?_))
    all_goals (show _ = chipE (cn, 3, cb, cs, cd))
    all_goals (simp_all [chipE, chipBad, sizeK, sel])
    all_goals (intros; (repeat' split) <;> omega)
  · repeat' first
      | (refine Go.mk ?_; conv => whnf)
      | refine Need.go ?_ ?_
      | refine NilG.go (fun _ => ?_) (fun _ => ?_)
      | refine Br.dec (fun _ => ?_) (fun _ => ?_)
      | refine Br.go (fun _ => ?_) (fun _ => ?_)
      | refine draw_go hT hP mixed ?_
      | refine round_go hT hP ?_
    all_goals (try dsimp only [castL_eq] at *)
    all_goals first
      | exact of_decide_eq_true rfl
      | skip
    all_goals clear hT hP
    all_goals (refine .mk [] [] _ rfl rfl rfl rfl rfl rfl (imm_int ?_))
    all_goals (show _ = chipE (cn, 4, cb, cs, cd))
    all_goals (simp_all [chipE, chipBad, sizeK, sel])
    all_goals (intros; (repeat' split) <;> omega)
  · repeat' first
      | (refine Go.mk ?_; conv => whnf)
      | refine Need.go ?_ ?_
      | refine NilG.go (fun _ => ?_) (fun _ => ?_)
      | refine Br.dec (fun _ => ?_) (fun _ => ?_)
      | refine Br.go (fun _ => ?_) (fun _ => ?_)
      | refine draw_go hT hP mixed ?_
      | refine round_go hT hP ?_
    all_goals (try dsimp only [castL_eq] at *)
    all_goals first
      | exact of_decide_eq_true rfl
      | skip
    all_goals clear hT hP
    all_goals (refine .mk [] [] _ rfl rfl rfl rfl rfl rfl (imm_int ?_))
    all_goals (show _ = chipE (cn, 5, cb, cs, cd))
    all_goals (simp_all [chipE, chipBad, sizeK, sel])
    all_goals (intros; (repeat' split) <;> omega)
  · repeat' first
      | (refine Go.mk ?_; conv => whnf)
      | refine Need.go ?_ ?_
      | refine NilG.go (fun _ => ?_) (fun _ => ?_)
      | refine Br.dec (fun _ => ?_) (fun _ => ?_)
      | refine Br.go (fun _ => ?_) (fun _ => ?_)
      | refine draw_go hT hP mixed ?_
      | refine round_go hT hP ?_
    all_goals (try dsimp only [castL_eq] at *)
    all_goals first
      | exact of_decide_eq_true rfl
      | skip
    all_goals clear hT hP
    all_goals (refine .mk [] [] _ rfl rfl rfl rfl rfl rfl (imm_int ?_))
    all_goals (show _ = chipE (cn, 6, cb, cs, cd))
    all_goals (simp_all [chipE, chipBad, sizeK, sel])
    all_goals (intros; (repeat' split) <;> omega)
  · repeat' first
      | (refine Go.mk ?_; conv => whnf)
      | refine Need.go ?_ ?_
      | refine NilG.go (fun _ => ?_) (fun _ => ?_)
      | refine Br.dec (fun _ => ?_) (fun _ => ?_)
      | refine Br.go (fun _ => ?_) (fun _ => ?_)
      | refine draw_go hT hP mixed ?_
      | refine round_go hT hP ?_
    all_goals (try dsimp only [castL_eq] at *)
    all_goals first
      | exact of_decide_eq_true rfl
      | skip
    all_goals clear hT hP
    all_goals (refine .mk [] [] _ rfl rfl rfl rfl rfl rfl (imm_int ?_))
    all_goals (show _ = chipE (cn, 7, cb, cs, cd))
    all_goals (simp_all [chipE, chipBad, sizeK, sel])
    all_goals (intros; (repeat' split) <;> omega)
  · repeat' first
      | (refine Go.mk ?_; conv => whnf)
      | refine Need.go ?_ ?_
      | refine NilG.go (fun _ => ?_) (fun _ => ?_)
      | refine Br.dec (fun _ => ?_) (fun _ => ?_)
      | refine Br.go (fun _ => ?_) (fun _ => ?_)
      | refine draw_go hT hP mixed ?_
      | refine round_go hT hP ?_
    all_goals (try dsimp only [castL_eq] at *)
    all_goals first
      | exact of_decide_eq_true rfl
      | skip
    all_goals clear hT hP
    all_goals (refine .mk [] [] _ rfl rfl rfl rfl rfl rfl (imm_int ?_))
    all_goals (show _ = chipE (cn, 8, cb, cs, cd))
    all_goals (simp_all [chipE, chipBad, sizeK, sel])
    all_goals (intros; (repeat' split) <;> omega)
set_option maxHeartbeats 8000000 in
theorem rChipErr_ok : GoodF Try.prog 86 chipES.spec := by
  have hT := tab_ok (fs := [(20, nameS.spec)]) tree_ok
  have hP : SpecsOk Try.prog (tab tree [(20, nameS.spec)]) := specs_cons rNamed_ok specs_nil
  refine chipES.good (fn := Try.f86) hT hP Try.func86 (by kernel_rfl) rfl fun (c : Cv) hp => ?_
  obtain ⟨hb, hs, hl⟩ : cP c := hp _ rfl
  obtain ⟨cn, ck, cb, cs, cd⟩ := c
  obtain ⟨hs1, hs2⟩ : -9223372036854775808 ≤ cs ∧ cs ≤ 9223372036854775807 := hs
  clear hp hb hl
  have hcn : cpuStr = ⟨#[99, 112, 117]⟩ := rfl
  have htm : Int.tmod (cd.length : Int) 256 = ((cd.length % 256 : Nat) : Int) := by rw [Int.tmod_eq_emod_of_nonneg (by omega)]; omega
  rcases kinds ck with rfl | rfl | rfl | rfl | rfl | rfl | rfl | rfl | rfl | hx
  rotate_right
  · have h8 : ¬ (¬ ck < 0 ∧ ¬ ck > 8) := by omega
    repeat' first
      | (exfalso; exact h8 ⟨by assumption, by assumption⟩)
      | (refine Go.mk ?_; conv => whnf)
      | refine Need.go ?_ ?_
      | refine NilG.go (fun _ => ?_) (fun _ => ?_)
      | refine Br.dec (fun _ => ?_) (fun _ => ?_)
      | refine Br.go (fun _ => ?_) (fun _ => ?_)
      | refine draw_go hT hP mixed ?_
      | refine round_go hT hP ?_
    all_goals (try dsimp only [castL_eq] at *)
    all_goals clear hT hP
    all_goals (refine .mk [] [] _ rfl rfl rfl rfl rfl rfl (imm_int ?_))
    all_goals (show _ = chipE (cn, ck, cb, cs, cd))
    all_goals (unfold chipE)
    all_goals (dsimp only)
    all_goals (simp_all)
    all_goals (intros; omega)
  · repeat' first
      | (refine Go.mk ?_; conv => whnf)
      | refine Need.go ?_ ?_
      | refine NilG.go (fun _ => ?_) (fun _ => ?_)
      | refine Br.dec (fun _ => ?_) (fun _ => ?_)
      | refine Br.go (fun _ => ?_) (fun _ => ?_)
      | refine draw_go hT hP mixed ?_
      | refine round_go hT hP ?_
    all_goals (try dsimp only [castL_eq] at *)
    all_goals first
      | exact of_decide_eq_true rfl
      | skip
    all_goals clear hT hP
    all_goals (refine .mk [] [] _ rfl rfl rfl rfl rfl rfl (imm_int ?_))
    all_goals (show _ = chipE (cn, 0, cb, cs, cd))
    all_goals (simp_all [chipE, chipBad, sizeK, sel, imax_eq])
    all_goals (intros; (repeat' split) <;> first | omega | (have hz := List.length_pos_iff.2 (by assumption : cd ≠ []); omega))
  · repeat' first
      | (refine Go.mk ?_; conv => whnf)
      | refine Need.go ?_ ?_
      | refine NilG.go (fun _ => ?_) (fun _ => ?_)
      | refine Br.dec (fun _ => ?_) (fun _ => ?_)
      | refine Br.go (fun _ => ?_) (fun _ => ?_)
      | refine draw_go hT hP mixed ?_
      | refine round_go hT hP ?_
    all_goals (try dsimp only [castL_eq] at *)
    all_goals first
      | exact of_decide_eq_true rfl
      | skip
    all_goals clear hT hP
    all_goals (refine .mk [] [] _ rfl rfl rfl rfl rfl rfl (imm_int ?_))
    all_goals (show _ = chipE (cn, 1, cb, cs, cd))
    all_goals (simp_all [chipE, chipBad, sizeK, sel, imax_eq])
    all_goals (intros; (repeat' split) <;> first | omega | (have hz := List.length_pos_iff.2 (by assumption : cd ≠ []); omega))
  · repeat' first
      | (refine Go.mk ?_; conv => whnf)
      | refine Need.go ?_ ?_
      | refine NilG.go (fun _ => ?_) (fun _ => ?_)
      | refine Br.dec (fun _ => ?_) (fun _ => ?_)
      | refine Br.go (fun _ => ?_) (fun _ => ?_)
      | refine draw_go hT hP mixed ?_
      | refine round_go hT hP ?_
    all_goals (try dsimp only [castL_eq] at *)
    all_goals first
      | exact of_decide_eq_true rfl
      | skip
    all_goals clear hT hP
    all_goals (refine .mk [] [] _ rfl rfl rfl rfl rfl rfl (imm_int ?_))
    all_goals (show _ = chipE (cn, 2, cb, cs, cd))
    all_goals (simp_all [chipE, chipBad, sizeK, sel, imax_eq])
    all_goals (intros; (repeat' split) <;> first | omega | (have hz := List.length_pos_iff.2 (by assumption : cd ≠ []); omega))
  · repeat' first
      | (refine Go.mk ?_; conv => whnf)
      | refine Need.go ?_ ?_
      | refine NilG.go (fun _ => ?_) (fun _ => ?_)
      | refine Br.dec (fun _ => ?_) (fun _ => ?_)
      | refine Br.go (fun _ => ?_) (fun _ => ?_)
      | refine draw_go hT hP mixed ?_
      | refine round_go hT hP ?_
    all_goals (try dsimp only [castL_eq] at *)
    all_goals first
      | exact of_decide_eq_true rfl
      | skip
    all_goals clear hT hP
    all_goals (refine .mk [] [] _ rfl rfl rfl rfl rfl rfl (imm_int ?_))
    all_goals (show _ = chipE (cn, 3, cb, cs, cd))
    all_goals (simp_all [chipE, chipBad, sizeK, sel, imax_eq])
    all_goals (intros; (repeat' split) <;> first | omega | (have hz := List.length_pos_iff.2 (by assumption : cd ≠ []); omega))
  · repeat' first
      | (refine Go.mk ?_; conv => whnf)
      | refine Need.go ?_ ?_
      | refine NilG.go (fun _ => ?_) (fun _ => ?_)
      | refine Br.dec (fun _ => ?_) (fun _ => ?_)
      | refine Br.go (fun _ => ?_) (fun _ => ?_)
      | refine draw_go hT hP mixed ?_
      | refine round_go hT hP ?_
    all_goals (try dsimp only [castL_eq] at *)
    all_goals first
      | exact of_decide_eq_true rfl
      | skip
    all_goals clear hT hP
    all_goals (refine .mk [] [] _ rfl rfl rfl rfl rfl rfl (imm_int ?_))
    all_goals (show _ = chipE (cn, 4, cb, cs, cd))
    all_goals (simp_all [chipE, chipBad, sizeK, sel, imax_eq])
    all_goals (intros; (repeat' split) <;> first | omega | (have hz := List.length_pos_iff.2 (by assumption : cd ≠ []); omega))
  · repeat' first
      | (refine Go.mk ?_; conv => whnf)
      | refine Need.go ?_ ?_
      | refine NilG.go (fun _ => ?_) (fun _ => ?_)
      | refine Br.dec (fun _ => ?_) (fun _ => ?_)
      | refine Br.go (fun _ => ?_) (fun _ => ?_)
      | refine draw_go hT hP mixed ?_
      | refine round_go hT hP ?_
    all_goals (try dsimp only [castL_eq] at *)
    all_goals first
      | exact of_decide_eq_true rfl
      | skip
    all_goals clear hT hP
    all_goals (refine .mk [] [] _ rfl rfl rfl rfl rfl rfl (imm_int ?_))
    all_goals (show _ = chipE (cn, 5, cb, cs, cd))
    all_goals (simp_all [chipE, chipBad, sizeK, sel, imax_eq])
    all_goals (intros; (repeat' split) <;> first | omega | (have hz := List.length_pos_iff.2 (by assumption : cd ≠ []); omega))
  · repeat' first
      | (refine Go.mk ?_; conv => whnf)
      | refine Need.go ?_ ?_
      | refine NilG.go (fun _ => ?_) (fun _ => ?_)
      | refine Br.dec (fun _ => ?_) (fun _ => ?_)
      | refine Br.go (fun _ => ?_) (fun _ => ?_)
      | refine draw_go hT hP mixed ?_
      | refine round_go hT hP ?_
    all_goals (try dsimp only [castL_eq] at *)
    all_goals first
      | exact of_decide_eq_true rfl
      | skip
    all_goals clear hT hP
    all_goals (refine .mk [] [] _ rfl rfl rfl rfl rfl rfl (imm_int ?_))
    all_goals (show _ = chipE (cn, 6, cb, cs, cd))
    all_goals (simp_all [chipE, chipBad, sizeK, sel, imax_eq])
    all_goals (intros; (repeat' split) <;> first | omega | (have hz := List.length_pos_iff.2 (by assumption : cd ≠ []); omega))
  · repeat' first
      | (refine Go.mk ?_; conv => whnf)
      | refine Need.go ?_ ?_
      | refine NilG.go (fun _ => ?_) (fun _ => ?_)
      | refine Br.dec (fun _ => ?_) (fun _ => ?_)
      | refine Br.go (fun _ => ?_) (fun _ => ?_)
      | refine draw_go hT hP mixed ?_
      | refine round_go hT hP ?_
    all_goals (try dsimp only [castL_eq] at *)
    all_goals first
      | exact of_decide_eq_true rfl
      | skip
    all_goals clear hT hP
    all_goals (refine .mk [] [] _ rfl rfl rfl rfl rfl rfl (imm_int ?_))
    all_goals (show _ = chipE (cn, 7, cb, cs, cd))
    all_goals (simp_all [chipE, chipBad, sizeK, sel, imax_eq])
    all_goals (intros; (repeat' split) <;> first | omega | (have hz := List.length_pos_iff.2 (by assumption : cd ≠ []); omega))
  · repeat' first
      | (refine Go.mk ?_; conv => whnf)
      | refine Need.go ?_ ?_
      | refine NilG.go (fun _ => ?_) (fun _ => ?_)
      | refine Br.dec (fun _ => ?_) (fun _ => ?_)
      | refine Br.go (fun _ => ?_) (fun _ => ?_)
      | refine draw_go hT hP mixed ?_
      | refine round_go hT hP ?_
    all_goals (try dsimp only [castL_eq] at *)
    all_goals first
      | exact of_decide_eq_true rfl
      | skip
    all_goals clear hT hP
    all_goals (refine .mk [] [] _ rfl rfl rfl rfl rfl rfl (imm_int ?_))
    all_goals (show _ = chipE (cn, 8, cb, cs, cd))
    all_goals (simp_all [chipE, chipBad, sizeK, sel, imax_eq])
    all_goals (intros; (repeat' split) <;> first | omega | (have hz := List.length_pos_iff.2 (by assumption : cd ≠ []); omega))

end Go.Proofs.Ytanaaecfghmmaaa

/- New states of chips; a byte of RAM is read back. -/
namespace Go.Proofs.Ytanaaecfghmmaaa
open Go.Fw
set_option linter.unusedVariables false
set_option linter.unusedSimpArgs false
set_option linter.constructorNameAsVariable false
set_option maxRecDepth 100000

def freshF (c : Cv) : Dv := sel c.2.1 (memN c [], memM c c.2.2.2.2) ([0, 0, 0, 0], []) ([255, 0, 0], []) ([0, 0, 0, 0, 0, 0, 0, 0], []) ([2559, 0], List.replicate 32 0) (List.replicate 12 0, []) ([0, 0, 0, 0, 0, 0, 0, 0, 0, 0], dM c.2.2.2.2) ([], [])
theorem dN_zero (q : Nat) : dN [] q = [0, 0, 0, 0, 0, 0, 0, 0, 0, 0] := by
  unfold dN
  have h : ¬ ((([] : List Int).getD 0 0) % 256 > (q : Int)) := by show ¬ (0 : Int) > q; omega
  rw [if_neg h]; rfl
theorem ffM {c : Cv} (h : c.2.1 = 0 ∨ c.2.1 = 1 ∨ c.2.1 = 2 ∨ c.2.1 = 8) : formF c ([], c.2.2.2.2) = freshF c := by
  obtain ⟨cn, ck, cb, cs, cd⟩ := c
  have h : ck = 0 ∨ ck = 1 ∨ ck = 2 ∨ ck = 8 := h
  rcases h with rfl | rfl | rfl | rfl
  · rfl
  · rfl
  · rfl
  · show (dN [] (qF cd), dM cd) = _
    rw [dN_zero]; rfl
theorem vN_nil : vN [] = [2559, 0] := rfl
theorem vM_nil : vM [] = List.replicate 32 0 := rfl
theorem sndN_nil : sndN [] = List.replicate 12 0 := rfl
theorem ffX {c : Cv} (h : ¬ (c.2.1 = 0 ∨ c.2.1 = 1 ∨ c.2.1 = 2 ∨ c.2.1 = 8 ∨ c.2.1 = 4)) : formF c ([], []) = freshF c := by
  obtain ⟨cn, ck, cb, cs, cd⟩ := c
  have h : ¬ (ck = 0 ∨ ck = 1 ∨ ck = 2 ∨ ck = 8 ∨ ck = 4) := h
  rcases kinds ck with rfl | rfl | rfl | rfl | rfl | rfl | rfl | rfl | rfl | hx
  · exact absurd (by decide) h
  · exact absurd (by decide) h
  · exact absurd (by decide) h
  · rfl
  · exact absurd (by decide) h
  · rfl
  · show (vN [], vM []) = ([2559, 0], List.replicate 32 0)
    rw [vN_nil, vM_nil]
  · show (sndN [], []) = (List.replicate 12 0, [])
    rw [sndN_nil]
  · exact absurd (by decide) h
  · unfold formF freshF; rw [sel_x hx, sel_x hx]
theorem blk_dv {x y : Dv} (h : x = y) : [some (Blk.arr (.int .i64) x.1), some (Blk.arr (.int .u8) x.2)] = [some (Blk.arr (.int .i64) y.1), some (Blk.arr (.int .u8) y.2)] := by rw [h]
def kFreshS : PSpec := ⟨[gC], fun (c, _) => (some (cP c), devM, [.arr (.int .i64) (freshF c).1, .arr (.int .u8) (freshF c).2])⟩
def cNewS : PSpec := ⟨[gC], fun (c, _) => (some (cP c), devM, [.arr (.int .i64) (freshF c).1, .arr (.int .u8) (freshF c).2])⟩
theorem memN_zero (c : Cv) (h : c.2.1 = 2) : memN c [] = [0] := by unfold memN; rw [if_pos h]; show [0 % bankI c] = [0]; rw [Int.zero_emod]
def ramC : Cv := (⟨#[97]⟩, 0, 0, 4, [])
def chipsS : PSpec := ⟨[], fun _ => (none, .cell (bv true), [])⟩
theorem ramC_ok : cP ramC := ⟨⟨by decide, by decide⟩, ⟨by decide, by decide⟩, by decide⟩
theorem ram_dP1 : dP (freshF ramC) := ⟨by decide +kernel, by unfold u8s; decide +kernel⟩
theorem ram_dP2 : dP (storeF ramC (freshF ramC) 2 9) := ⟨by decide +kernel, by unfold u8s; decide +kernel⟩
theorem freshF_len (c : Cv) : (freshF c).1.length ≤ 12 := by
  obtain ⟨cn, ck, cb, cs, cd⟩ := c
  rcases kinds ck with rfl | rfl | rfl | rfl | rfl | rfl | rfl | rfl | rfl | hx
  · exact Nat.zero_le _
  · exact Nat.zero_le _
  · show (memN (cn, 2, cb, cs, cd) []).length ≤ 12
    unfold memN; split <;> (show _ ≤ 12; simp)
  · exact (by decide : ([0, 0, 0, 0] : List Int).length ≤ 12)
  · exact (by decide : ([255, 0, 0] : List Int).length ≤ 12)
  · exact (by decide : ([0, 0, 0, 0, 0, 0, 0, 0] : List Int).length ≤ 12)
  · exact (by decide : ([2559, 0] : List Int).length ≤ 12)
  · exact (by decide : (List.replicate 12 (0 : Int)).length ≤ 12)
  · exact (by decide : ([0, 0, 0, 0, 0, 0, 0, 0, 0, 0] : List Int).length ≤ 12)
  · unfold freshF; rw [sel_x hx]; decide
theorem memM_le {c : Cv} (h : cP c) (M : List Int) : (memM c M).length ≤ 140737488355328 := by
  obtain ⟨h1, h2⟩ := bytesI_in h.2.2
  rw [memM_len]; omega
theorem freshF_lenM {c : Cv} (h : cP c) : (freshF c).2.length ≤ 140737488355328 := by
  obtain ⟨cn, ck, cb, cs, cd⟩ := c
  rcases kinds ck with rfl | rfl | rfl | rfl | rfl | rfl | rfl | rfl | rfl | hx
  · exact memM_le h _
  · exact memM_le h _
  · exact memM_le h _
  · exact Nat.zero_le _
  · exact Nat.zero_le _
  · exact Nat.zero_le _
  · exact (by decide : (List.replicate 32 (0 : Int)).length ≤ 140737488355328)
  · exact Nat.zero_le _
  · show (dM cd).length ≤ _
    have := qF_le cd
    have h2 : cd.length ≤ 140737488351232 := h.2.2
    rw [dM_len]; omega
  · unfold freshF; rw [sel_x hx]; exact Nat.zero_le _
def ccS : PSpec := ⟨[gC], fun (c, _) => (some (cP c), .cell (bv true), [])⟩
end Go.Proofs.Ytanaaecfghmmaaa

/- Boards: which chip has an address. -/
namespace Go.Proofs.Ytanaaecfghmmaaa
open Go.Fw
set_option linter.unusedVariables false
set_option linter.unusedSimpArgs false
set_option linter.constructorNameAsVariable false
set_option maxRecDepth 100000

abbrev ChipT : Ty := .pair .str (.pair (.int .i64) (.pair (.int .i64) (.pair (.int .i64) (.sl (.int .u8)))))
abbrev WireT : Ty := .pair .str .str
abbrev Wr := ByteArray × ByteArray
abbrev BoardT : Ty := .pair .str (.pair CpuT (.pair (.sl ChipT) (.sl WireT)))
abbrev gBd : Sig := ⟨true, BoardT⟩
abbrev Bd := ByteArray × Cpu × List Cv × List Wr

/-- the number of the first one that is so; -1: none -/
def fstG {α : Type} (p : α → Bool) : List α → Nat → Int
  | [], _ => -1
  | x :: r, k => if p x = true then (k : Int) else fstG p r (k + 1)
def fstI {α : Type} (p : α → Bool) (l : List α) : Int := fstG p l 0
theorem dropD {α : Type} {l : List α} {k : Nat} (d : α) (h : k < l.length) : l.drop k = l.getD k d :: l.drop (k + 1) := by
  rw [List.drop_eq_getElem_cons h, List.getD_eq_getElem?_getD, List.getElem?_eq_getElem h]; rfl
theorem fstG_in {α : Type} {p : α → Bool} : ∀ {l : List α} {k : Nat}, fstG p l k = -1 ∨ ((k : Int) ≤ fstG p l k ∧ fstG p l k < k + l.length)
  | [], k => .inl rfl
  | x :: r, k => by
    unfold fstG
    by_cases h : p x = true
    · rw [if_pos h]; right; simp only [List.length_cons]; omega
    · rw [if_neg h]
      rcases fstG_in (p := p) (l := r) (k := k + 1) with h1 | h1
      · exact .inl h1
      · right; simp only [List.length_cons]; omega
theorem fstI_in {α : Type} (p : α → Bool) (l : List α) : fstI p l = -1 ∨ (0 ≤ fstI p l ∧ fstI p l < l.length) := by
  have := fstG_in (p := p) (l := l) (k := 0)
  unfold fstI
  simpa using this
theorem fst_hit {α : Type} {p : α → Bool} {l : List α} {k : Nat} (d : α) (h : k < l.length) (hp : p (l.getD k d) = true) {r : Int} (hi : fstG p (l.drop k) k = r) : (k : Int) = r := by
  rw [dropD d h, fstG, if_pos hp] at hi; exact hi
theorem fst_miss {α : Type} {p : α → Bool} {l : List α} {k : Nat} (d : α) (h : k < l.length) (hp : ¬ p (l.getD k d) = true) {r : Int} (hi : fstG p (l.drop k) k = r) : fstG p (l.drop (k + 1)) (k + 1) = r := by
  rw [dropD d h, fstG, if_neg hp] at hi; exact hi
theorem fst_none {α : Type} {p : α → Bool} {l : List α} {k : Nat} (h : ¬ k < l.length) {r : Int} (hi : fstG p (l.drop k) k = r) : -1 = r := by
  rw [List.drop_of_length_le (by omega)] at hi; exact hi
theorem fst_get {α : Type} {p : α → Bool} (d : α) : ∀ {l : List α} {k : Nat}, 0 ≤ fstG p l k → p (l.getD (fstG p l k - k).toNat d) = true
  | [], k, h => by simp [fstG] at h
  | x :: r, k, h => by
    unfold fstG at h ⊢
    by_cases hx : p x = true
    · rw [if_pos hx]
      have : ((k : Int) - k).toNat = 0 := by omega
      rw [this]; exact hx
    · rw [if_neg hx] at h ⊢
      have h2 := fst_get (p := p) d (l := r) (k := k + 1) h
      have h3 := fstG_in (p := p) (l := r) (k := k + 1)
      have : (fstG p r (k + 1) - k).toNat = (fstG p r (k + 1) - ((k + 1 : Nat) : Int)).toNat + 1 := by omega
      rw [this]; exact h2
theorem fstI_get {α : Type} {p : α → Bool} (d : α) {l : List α} (h : 0 ≤ fstI p l) : p (l.getD (fstI p l).toNat d) = true := by
  have := fst_get (p := p) d (l := l) (k := 0) h
  have e : (fstG p l 0 - ((0 : Nat) : Int)).toNat = (fstI p l).toNat := by unfold fstI; omega
  rw [e] at this
  exact this

def ownB (a : Int) (c : Cv) : Bool := decide (c.2.2.1 ≤ a) && (decide (0 < c.2.2.2.1) && decide (a - c.2.2.1 < c.2.2.2.1))
def findF (b : Bd) (a : Int) : Int := fstI (ownB a) b.2.2.1
def atF (b : Bd) (a : Int) : Int := if 0 ≤ findF b a then a - (b.2.2.1.getD (findF b a).toNat (dflt ChipT)).2.2.1 else 0
def cI (c : Cv) : Prop := i64 c.2.2.1 ∧ i64 c.2.2.2.1
def bP (b : Bd) (a : Int) : Prop := b.2.2.1.length ≤ 4611686018427387904 ∧ i64 a ∧ ∀ c ∈ b.2.2.1, cI c
theorem memD' {α : Type} {l : List α} {k : Nat} (d : α) (h : k < l.length) : l.getD k d ∈ l := by
  rw [List.getD_eq_getElem?_getD, List.getElem?_eq_getElem h]; exact List.getElem_mem h
theorem u64w (x : Int) : IntKind.u64.wrap x = x % 18446744073709551616 := rfl
theorem hit_u {a b s : Int} (ha : i64 a) (hb : i64 b) (hs : i64 s) (h1 : a ≥ b) (h2 : s > 0) : (IntKind.u64.wrap (IntKind.u64.wrap a - IntKind.u64.wrap b) < IntKind.u64.wrap s) ↔ a - b < s := by
  unfold i64 at ha hb hs
  rw [u64w, u64w, u64w, u64w]
  omega
theorem tup3 {x x' y y' : Int} {b b' : Bool} (h1 : x = x') (h2 : y = y') (h3 : b = b') : AV.tup [I1 x, I1 y, .c (bv b)] = AV.tup [I1 x', I1 y', .c (bv b')] := by rw [h1, h2, h3]
def bfindS : PSpec := ⟨[gBd, gi], fun (b, a, _) => (some (bP b a), .tup [I1 (if 0 ≤ findF b a then findF b a else 0), I1 (atF b a), .c (bv (decide (0 ≤ findF b a)))], [])⟩
theorem bFind_ok : GoodF Try.prog 81 bfindS.spec := by
  have hT := tab_ok (fs := []) tree_ok
  have hP : SpecsOk Try.prog (tab tree []) := specs_nil
  refine bfindS.good (fn := Try.f81) hT hP Try.func81 (by kernel_rfl) rfl fun (b : Bd) (a : Int) hq => ?_
  obtain ⟨hl, ha, hc⟩ : bP b a := hq _ rfl
  obtain ⟨bn, bu, bc, bw⟩ := b
  have hl : bc.length ≤ 4611686018427387904 := hl
  have hc : ∀ c ∈ bc, cI c := hc
  clear hq
  repeat' first
    | (refine Go.mk ?_; conv => whnf)
    | refine Need.go ?_ ?_
    | refine NilG.go (fun _ => ?_) (fun _ => ?_)
    | refine Br.dec (fun _ => ?_) (fun _ => ?_)
    | refine Br.go (fun _ => ?_) (fun _ => ?_)
    | refine draw_go hT hP mixed ?_
    | refine round_go hT hP ?_
  refine up_go hT hP (A := Unit) bc.length (fun i _ => St.mk [.dead, I a, .dead, .dead, .dead, .dead, .dead, .dead, .dead, .dead, .cell (.ro ChipT bc), I bc.length, I i, .dead, .dead, .dead, .dead, .dead, .dead, .dead, .dead, .dead, .dead, .dead, .dead, .dead, .dead, .dead, .dead, .dead, .dead, .dead, .dead, .dead, .dead, .dead, .dead, .dead, .dead, .dead, .dead, .dead, .dead, .dead] [])
    (fun k _ => fstG (ownB a) (bc.drop k) k = fstI (ownB a) bc) () (Le.mk [] [] rfl rfl rfl ?_) rfl fun k _ hk hi => ?_
  · repeat' first | exact trivial | exact ⟨rfl, rfl⟩ | refine And.intro ?_ ?_
  repeat' first
    | (refine Go.mk ?_; conv => whnf)
    | refine Need.go ?_ ?_
    | refine NilG.go (fun _ => ?_) (fun _ => ?_)
    | refine Br.dec (fun _ => ?_) (fun _ => ?_)
    | refine Br.go (fun _ => ?_) (fun _ => ?_)
    | refine draw_go hT hP mixed ?_
    | refine round_go hT hP ?_
  all_goals (try dsimp only [castL_eq] at *)
  all_goals clear hT hP
  · rename_i g1
    have g1 : (k : Int) < (bc.length : Int) := g1
    show 0 ≤ (k : Int) ∧ (k : Int) < (bc.length : Int)
    omega
  · rename_i g1 g2 g3 g4
    have g1 : (k : Int) < (bc.length : Int) := g1
    have hlt : k < bc.length := by omega
    have hm := hc _ (memD' (dflt ChipT) hlt)
    have g2 : a ≥ (bc.getD k (dflt ChipT)).2.2.1 := g2
    have g3 : (bc.getD k (dflt ChipT)).2.2.2.1 > 0 := g3
    have g4 := (hit_u ha hm.1 hm.2 g2 g3).1 g4
    have hp : ownB a (bc.getD k (dflt ChipT)) = true := by
      unfold ownB; rw [decide_eq_true g2, decide_eq_true g3, decide_eq_true g4]; rfl
    have e := fst_hit (dflt ChipT) hlt hp hi
    have e1 : findF (bn, bu, bc, bw) a = (k : Int) := e.symm
    refine .mk [] [] _ rfl rfl rfl rfl rfl rfl (tup3 ?_ ?_ ?_)
    · show (k : Int) = if 0 ≤ findF (bn, bu, bc, bw) a then findF (bn, bu, bc, bw) a else 0
      rw [e1, if_pos (by omega)]
    · show IntKind.i64.wrap (a - (bc.getD k (dflt ChipT)).2.2.1) = atF (bn, bu, bc, bw) a
      unfold atF
      rw [e1, if_pos (by omega)]
      show _ = a - (bc.getD k (dflt ChipT)).2.2.1
      have h1 := ha.2
      have h2 := hm.1.1
      have h3 := hm.2.2
      unfold i64 at *
      exact w64 (by omega) (by omega)
    · show true = decide (0 ≤ findF (bn, bu, bc, bw) a)
      rw [e1]; exact (decide_eq_true (by omega)).symm
  · rename_i g1 g2 g3 g4
    have g1 : (k : Int) < (bc.length : Int) := g1
    have hlt : k < bc.length := by omega
    have hm := hc _ (memD' (dflt ChipT) hlt)
    have g2 : a ≥ (bc.getD k (dflt ChipT)).2.2.1 := g2
    have g3 : (bc.getD k (dflt ChipT)).2.2.2.1 > 0 := g3
    have g4 := fun z => g4 ((hit_u ha hm.1 hm.2 g2 g3).2 z)
    have hp : ¬ ownB a (bc.getD k (dflt ChipT)) = true := by
      unfold ownB; rw [decide_eq_false g4]; simp
    apply Exists.intro
    apply Exists.intro ()
    refine And.intro (And.intro ?lt146 (And.intro ?ei146 ?inv146)) (Le.mk [] [] rfl rfl ?hh146 ?ht146)
    case hh146 => exact rfl
    case ht146 => repeat' first | exact trivial | exact ⟨rfl, rfl⟩ | refine And.intro ?_ ?_
    case lt146 => omega
    case ei146 => exact up_i (by omega)
    exact fst_miss (dflt ChipT) hlt hp hi
  · rename_i g1 g2 g3
    have g1 : (k : Int) < (bc.length : Int) := g1
    have hlt : k < bc.length := by omega
    have g3 : ¬ (bc.getD k (dflt ChipT)).2.2.2.1 > 0 := g3
    have hp : ¬ ownB a (bc.getD k (dflt ChipT)) = true := by
      unfold ownB; rw [decide_eq_false g3]; simp
    apply Exists.intro
    apply Exists.intro ()
    refine And.intro (And.intro ?lt160 (And.intro ?ei160 ?inv160)) (Le.mk [] [] rfl rfl ?hh160 ?ht160)
    case hh160 => exact rfl
    case ht160 => repeat' first | exact trivial | exact ⟨rfl, rfl⟩ | refine And.intro ?_ ?_
    case lt160 => omega
    case ei160 => exact up_i (by omega)
    exact fst_miss (dflt ChipT) hlt hp hi
  · rename_i g1 g2
    have g1 : (k : Int) < (bc.length : Int) := g1
    have hlt : k < bc.length := by omega
    have g2 : ¬ a ≥ (bc.getD k (dflt ChipT)).2.2.1 := g2
    have hp : ¬ ownB a (bc.getD k (dflt ChipT)) = true := by
      unfold ownB; rw [decide_eq_false g2]; simp
    apply Exists.intro
    apply Exists.intro ()
    refine And.intro (And.intro ?lt174 (And.intro ?ei174 ?inv174)) (Le.mk [] [] rfl rfl ?hh174 ?ht174)
    case hh174 => exact rfl
    case ht174 => repeat' first | exact trivial | exact ⟨rfl, rfl⟩ | refine And.intro ?_ ?_
    case lt174 => omega
    case ei174 => exact up_i (by omega)
    exact fst_miss (dflt ChipT) hlt hp hi
  · rename_i g1
    have g1 : ¬ (k : Int) < (bc.length : Int) := g1
    have e := fst_none (by omega) hi
    have e1 : findF (bn, bu, bc, bw) a = -1 := e.symm
    refine .mk [] [] _ rfl rfl rfl rfl rfl rfl (tup3 ?_ ?_ ?_)
    · show 0 = if 0 ≤ findF (bn, bu, bc, bw) a then findF (bn, bu, bc, bw) a else 0
      rw [e1]; rfl
    · show 0 = atF (bn, bu, bc, bw) a
      unfold atF
      rw [e1]; rfl
    · show false = decide (0 ≤ findF (bn, bu, bc, bw) a)
      rw [e1]; rfl

theorem hit_last {a b s : Int} (ha : i64 a) (hb : i64 b) (hs : i64 s) (h1 : a ≥ b) (h2 : s > 0) : (a ≤ IntKind.i64.wrap (IntKind.i64.wrap (b + s) - 1) ∨ IntKind.i64.wrap (IntKind.i64.wrap (b + s) - 1) < b) ↔ a - b < s := by
  unfold i64 at ha hb hs
  rw [IntKind.wrap_i64, IntKind.wrap_i64]
  omega
def rownerS : PSpec := ⟨[gBd, gi], fun (b, a, _) => (some (bP b a), I (findF b a), [])⟩
def askK (k : Int) : Bool := decide (k = 3) || (decide (k = 5) || decide (k = 8))
def asksS : PSpec := ⟨[gi], fun (k, _) => (none, .cell (bv (askK k)), [])⟩
theorem bAsks_ok : GoodF Try.prog 44 asksS.spec := by
  have hT := tab_ok (fs := []) tree_ok
  have hP : SpecsOk Try.prog (tab tree []) := specs_nil
  refine asksS.good (fn := Try.f44) hT hP Try.func44 (by kernel_rfl) rfl fun (k : Int) _ => ?_
  repeat' first
    | (refine Go.mk ?_; conv => whnf)
    | refine Need.go ?_ ?_
    | refine NilG.go (fun _ => ?_) (fun _ => ?_)
    | refine Br.dec (fun _ => ?_) (fun _ => ?_)
    | refine Br.go (fun _ => ?_) (fun _ => ?_)
    | refine draw_go hT hP mixed ?_
    | refine round_go hT hP ?_
  all_goals (refine .mk [] [] _ rfl rfl rfl rfl rfl rfl (imm_bool ?_))
  all_goals (show _ = (decide (k = 3) || (decide (k = 5) || decide (k = 8))))
  all_goals clear hT hP
  all_goals (dsimp only [gi, Den] at *)
  all_goals (simp_all)
  all_goals (by_cases h : k = 8 <;> simp [h])
theorem rInterrupts_ok : GoodF Try.prog 45 asksS.spec := by
  have hT := tab_ok (fs := [(11, containsS.spec)]) tree_ok
  have hP : SpecsOk Try.prog (tab tree [(11, containsS.spec)]) := specs_cons contains_ok specs_nil
  refine asksS.good (fn := Try.f45) hT hP Try.func45 (by kernel_rfl) rfl fun (k : Int) _ => ?_
  repeat' first
    | (refine Go.mk ?_; conv => whnf)
    | refine Need.go ?_ ?_
    | refine NilG.go (fun _ => ?_) (fun _ => ?_)
    | refine Br.dec (fun _ => ?_) (fun _ => ?_)
    | refine Br.go (fun _ => ?_) (fun _ => ?_)
    | refine draw_go hT hP mixed ?_
    | refine round_go hT hP ?_
  all_goals first
    | exact of_decide_eq_true rfl
    | skip
  refine .mk [] [] _ rfl rfl rfl rfl rfl rfl (imm_bool ?_)
  show ([3, 5, 8].any fun a => decide (k = a)) = _
  simp only [List.any_cons, List.any_nil, Bool.or_false]
  rfl

end Go.Proofs.Ytanaaecfghmmaaa

/- Wires: which are so. -/
namespace Go.Proofs.Ytanaaecfghmmaaa
open Go.Fw
set_option linter.unusedVariables false
set_option linter.unusedSimpArgs false
set_option linter.constructorNameAsVariable false
set_option maxRecDepth 100000

theorem fstG_any {α : Type} (p : α → Bool) : ∀ (l : List α) (k : Nat), decide (fstG p l k ≥ 0) = l.any p
  | [], k => rfl
  | x :: r, k => by
    unfold fstG
    by_cases h : p x = true
    · rw [if_pos h, List.any_cons, h, decide_eq_true (by omega)]; rfl
    · rw [if_neg h, List.any_cons, fstG_any p r (k + 1)]
      have : p x = false := by simpa using h
      rw [this]; rfl
theorem fst_any {α : Type} (p : α → Bool) (l : List α) : decide (fstI p l ≥ 0) = l.any p := fstG_any p l 0
def irqS : ByteArray := ⟨#[46, 105, 114, 113]⟩
def cpuIrq : ByteArray := ⟨#[99, 112, 117, 46, 105, 114, 113]⟩
def wireB (s : ByteArray) (w : Wr) : Bool := strEq w.1 s
def heardB (c : Cv) (w : Wr) : Bool := bif strEq w.1 (c.1 ++ irqS) then strEq w.2 cpuIrq else false
def looseB (c : Cv) (w : Wr) : Bool := strEq w.1 (c.1 ++ irqS)
def nameOk (c : Cv) : Prop := c.1.size < 4611686018427387900

def locRd : List V1 → List Blk → Option (Wr × ByteArray) := fun a b => match a, b with
  | [.agg [.imm (.string wa), .imm (.string wb)], .c (.ptr 0 0)], [.var [.imm (.string s)]] => some ((wa, wb), s)
  | _, _ => none
theorem locRd_ok {a : List V1} {b : List Blk} {x : Wr × ByteArray} (h : locRd a b = some x) : a = [.agg [.imm (.string x.1.1), .imm (.string x.1.2)], .c (.ptr 0 0)] ∧ b = [.var [.imm (.string x.2)]] := by
  unfold locRd at h
  split at h
  · injection h with h; subst h; exact ⟨rfl, rfl⟩
  · cases h
def locS : WSpec := ⟨Wr × ByteArray, fun x => [.agg [.imm (.string x.1.1), .imm (.string x.1.2)], .c (.ptr 0 0)], fun x => [.var [.imm (.string x.2)]], locRd,
  fun x => (some ((fun _ => True) x.2), .cell (bv (wireB x.2 x.1)), [some (.var [.imm (.string x.2)])], [])⟩
structure loX where
  l : List Wr
  d : ByteArray
def hecRd : List V1 → List Blk → Option (Wr × Cv) := fun a b => match a, b with
  | [.agg [.imm (.string wa), .imm (.string wb)], .c (.ptr 0 0)], [.var [.imm (.string cn), .imm (.int .i64 ck), .imm (.int .i64 cb), .imm (.int .i64 cs), .ro (.int .u8) cd]] => some ((wa, wb), (cn, ck, cb, cs, cd))
  | _, _ => none
theorem hecRd_ok {a : List V1} {b : List Blk} {x : Wr × Cv} (h : hecRd a b = some x) : a = [.agg [.imm (.string x.1.1), .imm (.string x.1.2)], .c (.ptr 0 0)] ∧ b = [.var [.imm (.string x.2.1), iv .i64 x.2.2.1, iv .i64 x.2.2.2.1, iv .i64 x.2.2.2.2.1, .ro (.int .u8) x.2.2.2.2.2]] := by
  unfold hecRd at h
  split at h
  · injection h with h; subst h; exact ⟨rfl, rfl⟩
  · cases h
def hecS : WSpec := ⟨Wr × Cv, fun x => [.agg [.imm (.string x.1.1), .imm (.string x.1.2)], .c (.ptr 0 0)], fun x => [.var [.imm (.string x.2.1), iv .i64 x.2.2.1, iv .i64 x.2.2.2.1, iv .i64 x.2.2.2.2.1, .ro (.int .u8) x.2.2.2.2.2]], hecRd,
  fun x => (some ((nameOk) x.2), .cell (bv (heardB x.2 x.1)), [some (.var [.imm (.string x.2.1), iv .i64 x.2.2.1, iv .i64 x.2.2.2.1, iv .i64 x.2.2.2.2.1, .ro (.int .u8) x.2.2.2.2.2])], [])⟩
structure heX where
  l : List Wr
  d : Cv
def bfcRd : List V1 → List Blk → Option (Wr × Cv) := fun a b => match a, b with
  | [.agg [.imm (.string wa), .imm (.string wb)], .c (.ptr 0 0)], [.var [.imm (.string cn), .imm (.int .i64 ck), .imm (.int .i64 cb), .imm (.int .i64 cs), .ro (.int .u8) cd]] => some ((wa, wb), (cn, ck, cb, cs, cd))
  | _, _ => none
theorem bfcRd_ok {a : List V1} {b : List Blk} {x : Wr × Cv} (h : bfcRd a b = some x) : a = [.agg [.imm (.string x.1.1), .imm (.string x.1.2)], .c (.ptr 0 0)] ∧ b = [.var [.imm (.string x.2.1), iv .i64 x.2.2.1, iv .i64 x.2.2.2.1, iv .i64 x.2.2.2.2.1, .ro (.int .u8) x.2.2.2.2.2]] := by
  unfold bfcRd at h
  split at h
  · injection h with h; subst h; exact ⟨rfl, rfl⟩
  · cases h
def bfcS : WSpec := ⟨Wr × Cv, fun x => [.agg [.imm (.string x.1.1), .imm (.string x.1.2)], .c (.ptr 0 0)], fun x => [.var [.imm (.string x.2.1), iv .i64 x.2.2.1, iv .i64 x.2.2.2.1, iv .i64 x.2.2.2.2.1, .ro (.int .u8) x.2.2.2.2.2]], bfcRd,
  fun x => (some ((nameOk) x.2), .cell (bv (looseB x.2 x.1)), [some (.var [.imm (.string x.2.1), iv .i64 x.2.2.1, iv .i64 x.2.2.2.1, iv .i64 x.2.2.2.2.1, .ro (.int .u8) x.2.2.2.2.2])], [])⟩
structure bfX where
  l : List Wr
  d : Cv
end Go.Proofs.Ytanaaecfghmmaaa

/- Lists compared; a wire looked for. -/
namespace Go.Proofs.Ytanaaecfghmmaaa
open Go.Fw
set_option linter.unusedVariables false
set_option linter.unusedSimpArgs false
set_option linter.constructorNameAsVariable false
set_option maxRecDepth 100000

theorem strEq_iff {x y : ByteArray} : strEq x y = true ↔ x = y := Lib.bytes_beq_iff x y
def beqB (x y : Bool) : Bool := x == y
theorem beqB_iff {x y : Bool} : beqB x y = true ↔ x = y := by cases x <;> cases y <;> decide
theorem denEq_iff {x y : Wr} : denEq WireT x y = true ↔ x = y := ⟨fun h => denEq_eq (u := WireT) rfl h, fun h => by subst h; show (strEq x.1 x.1 && strEq x.2 x.2) = true; rw [strEq_iff.2 rfl, strEq_iff.2 rfl]; rfl⟩

noncomputable def eqStrS : PSpec := ⟨[⟨false, .sl .str⟩, ⟨false, .sl .str⟩], fun (l, m, _) => (some (List.length l ≤ 4611686018427387904), .cell (bv (eqB (α := List ByteArray) l m)), [])⟩
noncomputable def eqBoolS : PSpec := ⟨[⟨false, .sl .bool⟩, ⟨false, .sl .bool⟩], fun (l, m, _) => (some (List.length l ≤ 4611686018427387904), .cell (bv (eqB (α := List Bool) l m)), [])⟩
noncomputable def eqWrS : PSpec := ⟨[⟨false, .sl WireT⟩, ⟨false, .sl WireT⟩], fun (l, m, _) => (some (List.length l ≤ 4611686018427387904), .cell (bv (eqB (α := List Wr) l m)), [])⟩
abbrev gWr : Sig := ⟨true, WireT⟩
def sameW (v w : Wr) : Bool := denEq WireT v w
def wIdxS : PSpec := ⟨[⟨false, .sl WireT⟩, gWr], fun (l, v, _) => (some (List.length l ≤ 4611686018427387904), I (fstI (sameW v) l), [])⟩
theorem wIdx_ok : GoodF Try.prog 112 wIdxS.spec := by
  have hT := tab_ok (fs := []) tree_ok
  have hP : SpecsOk Try.prog (tab tree []) := specs_nil
  refine wIdxS.good (fn := Try.f112) hT hP Try.func112 (by kernel_rfl) rfl fun (l : List Wr) (v : Wr) hq => ?_
  have hl : l.length ≤ 4611686018427387904 := hq _ rfl
  obtain ⟨va, vb⟩ := v
  clear hq
  repeat' first
    | (refine Go.mk ?_; conv => whnf)
    | refine Need.go ?_ ?_
    | refine NilG.go (fun _ => ?_) (fun _ => ?_)
    | refine Br.dec (fun _ => ?_) (fun _ => ?_)
    | refine Br.go (fun _ => ?_) (fun _ => ?_)
    | refine draw_go hT hP mixed ?_
    | refine round_go hT hP ?_
  refine up_go hT hP (A := Unit) l.length (fun i _ => St.mk [.cell (.ro WireT l), .dead, .dead, .cell (.ptr 0 0), .dead, .dead, .dead, I l.length, I i, .dead, .dead, .dead, .dead, .dead, .dead, .dead, .dead, .dead, .dead] [some (.var [.imm (.string va), .imm (.string vb)])])
    (fun k _ => fstG (sameW (va, vb)) (l.drop k) k = fstI (sameW (va, vb)) l) () (Le.mk [] [0] rfl rfl rfl ?_) rfl fun k _ hk hi => ?_
  · repeat' first | exact trivial | exact ⟨rfl, rfl⟩ | refine And.intro ?_ ?_
  repeat' first
    | (refine Go.mk ?_; conv => whnf)
    | refine Need.go ?_ ?_
    | refine NilG.go (fun _ => ?_) (fun _ => ?_)
    | refine Br.dec (fun _ => ?_) (fun _ => ?_)
    | refine Br.go (fun _ => ?_) (fun _ => ?_)
    | refine draw_go hT hP mixed ?_
    | refine round_go hT hP ?_
  all_goals clear hT hP
  · rename_i g1
    have g1 : (k : Int) < (l.length : Int) := g1
    show 0 ≤ (k : Int) ∧ (k : Int) < (l.length : Int)
    omega
  · rename_i g1 g2
    have g1 : (k : Int) < (l.length : Int) := g1
    exact .mk [] [] _ rfl rfl rfl rfl rfl rfl (imm_int (fst_hit (dflt WireT) (by omega) g2 hi))
  · rename_i g1 g2
    have g1 : (k : Int) < (l.length : Int) := g1
    have hp : ¬ sameW (va, vb) (l.getD k (dflt WireT)) = true := by
      have g2 : sameW (va, vb) (l.getD k (dflt WireT)) = false := g2
      rw [g2]; decide
    apply Exists.intro
    apply Exists.intro ()
    refine And.intro (And.intro ?lt249 (And.intro ?ei249 ?inv249)) (Le.mk [] [0] rfl rfl ?hh249 ?ht249)
    case hh249 => exact rfl
    case ht249 => repeat' first | exact trivial | exact ⟨rfl, rfl⟩ | refine And.intro ?_ ?_
    case lt249 => omega
    case ei249 => exact up_i (by omega)
    exact fst_miss (dflt WireT) (by omega) hp hi
  · rename_i g1
    have g1 : ¬ (k : Int) < (l.length : Int) := g1
    exact .mk [] [] _ rfl rfl rfl rfl rfl rfl (imm_int (fst_none (by omega) hi))
def wHasS : PSpec := ⟨[⟨false, .sl WireT⟩, gWr], fun (l, v, _) => (some (List.length l ≤ 4611686018427387904), .cell (bv (l.any (sameW v))), [])⟩
theorem wHas_ok : GoodF Try.prog 85 wHasS.spec := by
  have hT := tab_ok (fs := [(112, wIdxS.spec)]) tree_ok
  have hP : SpecsOk Try.prog (tab tree [(112, wIdxS.spec)]) := specs_cons wIdx_ok specs_nil
  refine wHasS.good (fn := Try.f85) hT hP Try.func85 (by kernel_rfl) rfl fun (l : List Wr) (v : Wr) hq => ?_
  have hl : l.length ≤ 4611686018427387904 := hq _ rfl
  obtain ⟨va, vb⟩ := v
  clear hq
  repeat' first
    | (refine Go.mk ?_; conv => whnf)
    | refine Need.go ?_ ?_
    | refine NilG.go (fun _ => ?_) (fun _ => ?_)
    | refine Br.dec (fun _ => ?_) (fun _ => ?_)
    | refine Br.go (fun _ => ?_) (fun _ => ?_)
    | refine draw_go hT hP mixed ?_
    | refine round_go hT hP ?_
  all_goals clear hT hP
  · exact hl
  · exact .mk [] [] _ rfl rfl rfl rfl rfl rfl (imm_bool (fst_any (sameW (va, vb)) l))

end Go.Proofs.Ytanaaecfghmmaaa

