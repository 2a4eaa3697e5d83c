/- Part 10 of the proof: Fw31 VideoLaw Read Read2 ReadF TurnLaw Turn Turn2 Shade Video Video2 Mem DriveO Video3 Kind Kind2 ChipE. No statement is handed in here; conditions: none. -/
import Derived.Test.YtanaaecfghmmaaaG9
import Derived.Test.YtanaaecfghmmaaaG6
import Derived.ChangeArms
import Derived.ChangeOld
import Derived.SizedLaws
import Derived.Test.YtanaaecfghmmaaaG7
import Derived.Test.YtanaaecfghmmaaaG8
/- What an argument that reads well is as typed data. -/
namespace Go.Fw
open Go.ChangeShapes Go.WideShapes
set_option linter.unusedVariables false
set_option linter.unusedSimpArgs false

def Wf : (u : Ty) → Den u → Prop
  | .int k, x => (Lit.int k x).wf = true
  | .ints k n, l => List.length l = n ∧ ∀ x ∈ (l : List Int), (Lit.int k x).wf = true
  | .bool, _ => True
  | .str, s => ByteArray.size s ≤ reachBytes
  | .sl t, l => List.length l * t.by_ ≤ reachBytes ∧ ∀ x ∈ (l : List (Den t)), Wf t x
  | .pair a b, x => Wf a x.1 ∧ Wf b x.2

theorem addr_add (a : Addr) (x y : Nat) : (a.add x).add y = a.add (x + y) := by
  unfold Addr.add
  split <;> split <;> simp_all [Nat.add_assoc]

/-- a measure of what an argument reads as -/
structure BulkLaw {H : Type} (bk : DataW H → Nat) (ba : List (DataW H) → Nat) : Prop where
  cons : ∀ d r, bk d + ba r ≤ ba (d :: r)
  one : ∀ d, 1 ≤ bk d
  sl : ∀ e s, ba e + 1 ≤ bk (.slice e s)
  ag : ∀ p, ba p ≤ bk (.agg p)
  st : ∀ b, b.length + 1 ≤ bk (.lit (.string b))
/-- the measure of typed data -/
def bd : (u : Ty) → Den u → Nat
  | .int _, _ => 1
  | .ints _ n, _ => n
  | .bool, _ => 1
  | .str, s => ByteArray.size s + 1
  | .sl t, l => (List.map (bd t) l).sum + 1
  | .pair a b, x => bd a x.1 + bd b x.2
theorem BulkLaw.len {H : Type} {bk : DataW H → Nat} {ba : List (DataW H) → Nat} (B : BulkLaw bk ba) : ∀ l, l.length ≤ ba l
  | [] => Nat.zero_le _
  | d :: r => by
    have h1 := B.cons d r
    have h2 := B.one d
    have h3 := B.len r
    simp only [List.length_cons]
    omega
def sumTo (B : Nat → Nat) : Nat → Nat
  | 0 => 0
  | n + 1 => sumTo B n + B n
theorem sumTo_succ (B : Nat → Nat) : ∀ n, sumTo B (n + 1) = B 0 + sumTo (fun i => B (i + 1)) n
  | 0 => by simp [sumTo]
  | n + 1 => by rw [sumTo, sumTo_succ B n, sumTo]; omega
theorem BulkLaw.sum {H : Type} {bk : DataW H → Nat} {ba : List (DataW H) → Nat} (B : BulkLaw bk ba) : ∀ l : List (DataW H), sumTo (fun i => bk (l.getD i .nil)) l.length ≤ ba l
  | [] => Nat.zero_le _
  | d :: r => by
    have h1 := B.cons d r
    have h2 := B.sum r
    rw [List.length_cons, sumTo_succ]
    simp only [List.getD_cons_zero, List.getD_cons_succ]
    omega
theorem bulk_size (H : Type) : BulkLaw (H := H) (fun d => SizeOf.sizeOf d) (fun l => SizeOf.sizeOf l) where
  cons := fun d r => by simp
  one := fun d => by cases d <;> simp <;> omega
  sl := fun e s => by simp; omega
  ag := fun p => by simp
  st := fun b => by
    have : ∀ b : List UInt8, b.length ≤ SizeOf.sizeOf b := by
      intro b
      induction b with
      | nil => simp
      | cons x r ih => simp; omega
    have := this b
    simp; omega

theorem rows_listB {α : Type} {R : α → List Value → Prop} {Q : α → Prop} {m : α → Nat} {B : Nat → Nat} {w : World} {a : Addr} {c : Nat} : ∀ (len : Nat), (∀ i, i < len → ∃ d r, R d r ∧ (Q d ∧ m d ≤ B i) ∧ r.length = c ∧ ∀ j, j < c → w.cell? ((a.add (i * c)).add j) = r[j]?) →
    ∃ (l : List α) (us : List Value), l.length = len ∧ ListRel R l us ∧ (∀ x ∈ l, Q x) ∧ us.length = len * c ∧ (∀ k u, us[k]? = some u → w.cell? (a.add k) = some u) ∧ (l.map m).sum ≤ sumTo B len
  | 0, _ => ⟨[], [], rfl, rfl, fun x h => (by cases h), by simp, fun k u h => (by simp at h), Nat.le_refl _⟩
  | len + 1, h => by
    obtain ⟨l, us, h1, h2, h3, h4, h5, h6⟩ := rows_listB len fun i hi => h i (by omega)
    obtain ⟨d, r, g1, ⟨g2, g5⟩, g3, g4⟩ := h len (by omega)
    refine ⟨l ++ [d], us ++ r, by simp [h1], h2.append ⟨r, [], by simp, g1, rfl⟩, fun x hx => ?_, by simp [h4, g3, Nat.add_mul], fun k u hk => ?_, by simp [sumTo]; omega⟩
    · rcases List.mem_append.1 hx with hx | hx
      · exact h3 x hx
      · simp at hx; subst hx; exact g2
    · rw [List.getElem?_append] at hk
      split at hk
      · exact h5 k u hk
      · have hlt := (List.getElem?_eq_some_iff.1 hk).1
        have := g4 (k - us.length) (by omega)
        rw [addr_add] at this
        have e : len * c + (k - us.length) = k := by omega
        rw [e] at this
        rw [this, hk]

section
variable {H : Type} {enc : TypeId × Value → H} {P : Program} {w : World} {sp : Nat → Bool} {held : Bool}

def inHeap (w : World) (g : Nat) : Prop := g < w.heap.size

theorem weights_mem {e : TypeId} {d : DataW H} {n : Nat} (hn : n ∈ DataW.weights P e d) : ∀ {l : List (DataW H)}, d ∈ l → n ∈ DataW.weightsAll P e l
  | [], h => by cases h
  | x :: l, h => by
    simp only [DataW.weightsAll, List.mem_append]
    rcases List.mem_cons.1 h with rfl | h
    · exact .inl hn
    · exact .inr (weights_mem hn h)

variable {bk : DataW H → Nat} {ba : List (DataW H) → Nat}
theorem fits_struct (B : BulkLaw bk ba) {g : Ty → TypeId → Bool} {n : Nat} (ih : ∀ {u : Ty} {t : TypeId} {cs : List Value} {x : DataW H × List MemPlace}, g u t = true → (∀ z ∈ DataW.weights P t x.1, z ≤ reachBytes) → DataW.trod enc P w 0 sp held n t cs = some x → ∃ d : Den u, CR w (inHeap w) u d cs ∧ Wf u d ∧ bd u d ≤ bk x.1) :
    ∀ (fs : List Field) (u : Ty) (off : Nat) (cs : List Value) (xs : List (DataW H × List MemPlace)), fitsF P g u fs off = true → off + u.size = cs.length → xs.length = fs.length → (∀ z ∈ DataW.weightsEach P (fs.map (·.type)) (xs.map (·.1)), z ≤ reachBytes) →
      (∀ (i : Nat) (f : Field), fs[i]? = some f → DataW.trod enc P w 0 sp held n f.type ((cs.drop f.offset).take (P.cellsOf f.type)) = xs[i]?) → ∃ d : Den u, CR w (inHeap w) u d (cs.drop off) ∧ Wf u d ∧ bd u d ≤ ba (xs.map (·.1))
  | [], u, off, cs, xs, h, _, _, _, _ => by simp [fitsF] at h
  | [f], u, off, cs, xs, h, hl, hxl, hz, hx => by
    simp only [fitsF, Bool.and_eq_true] at h
    obtain ⟨⟨h1, h2⟩, h3⟩ := h
    have h2 := Nat.eq_of_beq_eq_true h2
    have h3 := Nat.eq_of_beq_eq_true h3
    have := hx 0 f rfl
    have hlt : 0 < xs.length := by rw [hxl]; simp
    rw [List.getElem?_eq_getElem hlt, h2, h3, List.take_of_length_le (by simp; omega)] at this
    obtain ⟨d0, c0, w0, b0⟩ := ih h1 (fun z hz' => hz z (by
      cases xs with
      | nil => simp at hlt
      | cons y ys => simp only [List.map_cons, DataW.weightsEach, List.mem_append]; exact .inl hz')) this
    refine ⟨d0, c0, w0, ?_⟩
    cases xs with
    | nil => simp at hlt
    | cons y ys =>
      have := B.cons y.1 (ys.map (·.1))
      simp only [List.map_cons]
      simp only [List.getElem_cons_zero] at b0
      omega
  | f :: f' :: fs, u, off, cs, xs, h, hl, hxl, hz, hx => by
    unfold fitsF at h
    split at h
    · rename_i a b
      simp only [Bool.and_eq_true] at h
      obtain ⟨⟨⟨h1, h2⟩, h3⟩, h4⟩ := h
      have h2 := Nat.eq_of_beq_eq_true h2
      have h3 := Nat.eq_of_beq_eq_true h3
      have h0 := hx 0 f rfl
      have hlt : 0 < xs.length := by rw [hxl]; simp
      rw [List.getElem?_eq_getElem hlt, h2, h3] at h0
      have hz1 : ∀ z ∈ DataW.weights P f.type xs[0].1, z ≤ reachBytes := fun z hz' => hz z (by
        cases xs with
        | nil => simp at hlt
        | cons y ys => simp only [List.map_cons, DataW.weightsEach, List.mem_append]; exact .inl hz')
      have hz2 : ∀ z ∈ DataW.weightsEach P ((f' :: fs).map (·.type)) (xs.tail.map (·.1)), z ≤ reachBytes := fun z hz' => hz z (by
        cases xs with
        | nil => simp at hlt
        | cons y ys => rw [show ((f :: f' :: fs).map (·.type)) = f.type :: (f' :: fs).map (·.type) from rfl, show ((y :: ys).map (·.1)) = y.1 :: ys.map (·.1) from rfl, DataW.weightsEach, List.mem_append]; exact .inr hz')
      obtain ⟨d1, c1, w1, b1⟩ := ih h1 hz1 h0
      obtain ⟨d2, c2, w2, b2⟩ := fits_struct B ih (f' :: fs) b (off + a.size) cs xs.tail h4 (by simp only [Ty.size] at hl; omega) (by simp [hxl]) hz2 fun i g hg => by
        have := hx (i + 1) g (by simpa using hg)
        rw [this]
        cases xs with
        | nil => simp at hlt
        | cons y ys => simp
      refine ⟨(d1, d2), ⟨_, _, by rw [← List.drop_drop, List.take_append_drop], c1, c2⟩, ⟨w1, w2⟩, ?_⟩
      cases xs with
      | nil => simp at hlt
      | cons y ys =>
        have := B.cons y.1 (ys.map (·.1))
        simp only [List.map_cons, bd]
        simp only [List.getElem_cons_zero] at b1
        simp only [List.tail_cons] at b2
        omega
    · cases h

theorem trod_array {t e : TypeId} {m fuel : Nat} {cs : List Value} {x : DataW H × List MemPlace} (ht : P.underlying t = some (.array m e)) (h : DataW.trod enc P w 0 sp held fuel t cs = some x) :
    ∃ (xs : List (DataW H × List MemPlace)) (n : Nat), x.1 = .agg (xs.map (·.1)) ∧ cs.length = P.cellsOf t ∧ xs.length = m ∧ ∀ i, i < m → DataW.trod enc P w 0 sp held n e ((cs.drop (i * P.cellsOf e)).take (P.cellsOf e)) = xs[i]? := by
  cases fuel with
  | zero => simp [DataW.trod] at h
  | succ n =>
    unfold DataW.trod at h
    rw [ht] at h
    split at h <;> simp_all
    obtain ⟨hl, xs, hp, hd⟩ := h
    exact ⟨xs, by rw [← hd], by simpa using mapM_some_length hp, n, fun i hi => mapM_some_get hp i i (by simp [hi])⟩

theorem ints_of {k : IntKind} : ∀ (cs : List Value), (∀ i, i < cs.length → ∃ n : Int, cs[i]? = some (.int k n) ∧ (Lit.int k n).wf = true) → ∃ l : List Int, cs = l.map (.int k) ∧ ∀ x ∈ l, (Lit.int k x).wf = true
  | [], _ => ⟨[], rfl, fun x h => (by cases h)⟩
  | v :: cs, h => by
    obtain ⟨n, h1, h2⟩ := h 0 (by simp)
    simp at h1
    subst h1
    obtain ⟨l, rfl, h3⟩ := ints_of cs fun i hi => by simpa using h (i + 1) (by simpa using hi)
    refine ⟨n :: l, rfl, fun x hx => ?_⟩
    rcases List.mem_cons.1 hx with rfl | hx
    · exact h2
    · exact h3 x hx

theorem open_cr (B : BulkLaw bk ba) : ∀ (m : Nat) {u : Ty} {t : TypeId} {fuel : Nat} {cs : List Value} {x : DataW H × List MemPlace}, tyFits P m u t = true → (∀ z ∈ DataW.weights P t x.1, z ≤ reachBytes) → DataW.trod enc P w 0 sp held fuel t cs = some x → ∃ d : Den u, CR w (inHeap w) u d cs ∧ Wf u d ∧ bd u d ≤ bk x.1
  | 0, _, _, _, _, _, h, _, _ => by cases h
  | m + 1, u, t, fuel, cs, x, h, hz, hx => by
    unfold tyFits at h
    split at h
    · rename_i hu
      obtain ⟨b, rfl, _⟩ := DataW.trod_bool hu hx
      exact ⟨b, rfl, trivial, B.one _⟩
    · rename_i k k' hu
      simp only [decide_eq_true_eq] at h
      subst h
      obtain ⟨n, rfl, _, hw⟩ := DataW.trod_int hu hx
      exact ⟨n, rfl, hw, B.one _⟩
    · rename_i hu
      obtain ⟨s, rfl, rfl, hs⟩ := DataW.trod_string hu hx
      exact ⟨s, rfl, by show ByteArray.size s ≤ reachBytes; simpa using hz s.data.toList.length (by simp [DataW.weights]), by have := B.st s.data.toList; rw [Array.length_toList] at this; exact this⟩
    · rename_i e v hu
      simp only [Bool.and_eq_true] at h
      obtain ⟨⟨⟨h1, h2⟩, h3⟩, h4⟩ := h
      have h2 := Nat.eq_of_beq_eq_true h2
      have h3 : 1 ≤ v.size := by simpa using h3
      have h4 : v.by_ ≤ P.bytesOf e := by simpa using h4
      rcases DataW.trod_slice hu hx with ⟨rfl, _⟩ | ⟨a, len, cap, elems, rest, n, rfl, rfl, rfl, hb, hl, hm, hlen, hel, _, _⟩
      · exact ⟨[], ⟨_, rfl, none, 0, rfl, Nat.le_refl _, fun hne => absurd rfl hne⟩, ⟨by simp [Nat.zero_le], fun x hx => (by cases hx)⟩, B.one _⟩
      · have hw0 : ∀ d ∈ elems.map (·.1), ∀ z ∈ DataW.weights P e d, z ≤ reachBytes := fun d hd z hz' => hz z (by
          simp only [DataW.weights, hu, List.mem_cons, List.mem_append]
          exact .inr (.inl (weights_mem hz' hd)))
        have each : ∀ i, i < len → ∃ (d : Den v) (r : List Value), CR w (inHeap w) v d r ∧ (Wf v d ∧ bd v d ≤ bk ((elems.map (·.1)).getD i .nil)) ∧ r.length = v.size ∧ ∀ j, j < v.size → w.cell? ((a.add (i * v.size)).add j) = r[j]? := by
          intro i hi
          have := hel i hi
          rw [List.getElem?_eq_getElem (by omega), h2] at this
          obtain ⟨r, hr, ht⟩ := Option.bind_eq_some_iff.1 this
          obtain ⟨_, hrl, hrc⟩ := World.cells?_some hr
          obtain ⟨d, c1, w1, b1⟩ := open_cr B m h1 (hw0 _ (List.mem_map_of_mem (List.getElem_mem (by omega)))) ht
          exact ⟨d, r, c1, ⟨w1, by rw [List.getD_eq_getElem?_getD, List.getElem?_map, List.getElem?_eq_getElem (by omega)]; exact b1⟩, hrl, hrc⟩
        obtain ⟨l, us, e1, e2, e3, e4, e5, e6⟩ := rows_listB (B := fun i => bk ((elems.map (·.1)).getD i .nil)) len each
        refine ⟨l, ⟨_, rfl, some a, cap, by rw [e1], by omega, fun hne => ⟨a, us, rfl, ?_, e2, e5⟩⟩, ⟨?_, e3⟩, ?_⟩
        rotate_left
        · have := hz ((elems.length + rest.length) * P.bytesOf e) (by simp [DataW.weights, hu])
          have k1 : l.length * v.by_ ≤ (elems.length + rest.length) * P.bytesOf e := Nat.mul_le_mul (by omega) h4
          exact Nat.le_trans k1 this
        · have k1 := B.sum (elems.map (·.1))
          rw [List.length_map, show elems.length = len by omega] at k1
          have k2 := B.sl (elems.map (·.1)) (rest.map (·.1))
          simp only [bd]
          exact Nat.le_trans (Nat.succ_le_succ (Nat.le_trans e6 k1)) k2
        have hlen0 : 0 < len := by
          rw [← e1]
          exact List.length_pos_iff.2 hne
        have := hel 0 hlen0
        rw [List.getElem?_eq_getElem (by omega), h2] at this
        obtain ⟨r, hr, _⟩ := Option.bind_eq_some_iff.1 this
        have hb := World.cells?_block hr (by omega)
        have hbl : (a.add (0 * v.size)).block = a.block := by unfold Addr.add; split <;> rfl
        rw [hbl] at hb
        exact hb
    · rename_i u F hu
      rw [Bool.and_eq_true] at h
      obtain ⟨xs, n, rfl, rfl, hl, hxl, hf⟩ := DataW.trod_struct hu hx
      have hz' : ∀ z ∈ DataW.weightsEach P (F.toList.map (·.type)) (xs.map (·.1)), z ≤ reachBytes := fun z h => hz z (by simp only [DataW.weights, hu]; exact h)
      have h2 := Nat.eq_of_beq_eq_true h.2
      have := fits_struct B (g := tyFits P m) (fun h1 h2 h3 => open_cr B m h1 h2 h3) F.toList _ 0 cs xs h.1 (by omega) (by simpa using hxl) hz' fun i f hi => hf i f (by rw [← Array.getElem?_toList]; exact hi)
      obtain ⟨d, c1, w1, b1⟩ := this
      exact ⟨d, by simpa using c1, w1, Nat.le_trans b1 (B.ag _)⟩
    · rename_i hu
      split at h
      · rename_i k' he
        simp only [Bool.and_eq_true, decide_eq_true_eq] at h
        obtain ⟨⟨⟨rfl, h2⟩, h3⟩, h4⟩ := h
        have h2 := Nat.eq_of_beq_eq_true h2
        have h3 := Nat.eq_of_beq_eq_true h3
        have h4 := Nat.eq_of_beq_eq_true h4
        obtain ⟨xs, n, hx1, hl, hxl, hf⟩ := trod_array hu hx
        obtain ⟨l, rfl, hw⟩ := ints_of cs fun i hi => by
          have := hf i (by omega)
          rw [h3, List.getElem?_eq_getElem (by omega)] at this
          obtain ⟨z, hz, _, hwz⟩ := DataW.trod_int he this
          refine ⟨z, ?_, hwz⟩
          have := congrArg (·[0]?) hz
          simpa [List.getElem?_take] using this
        exact ⟨l, ⟨by simp at hl; omega, rfl⟩, ⟨by simp at hl; omega, hw⟩, by rw [hx1]; have k := B.len (xs.map (·.1)); rw [List.length_map] at k; simp only [bd]; have k2 := B.ag (xs.map (·.1)); omega⟩
      · cases h
    · cases h
end

end Go.Fw

/- The picture as plain functions: what is seen at a position, and many cycles. -/
namespace Go.Proofs.Ytanaaecfghmmaaa
open Go.Fw
set_option linter.unusedVariables false
set_option linter.unusedSimpArgs false

abbrev bA (m : List Int) (i : Nat) : Int := m.getD i 0
def u8s (m : List Int) : Prop := ∀ x ∈ m, 0 ≤ x ∧ x < 256
instance (m : List Int) : Decidable (u8s m) := by unfold u8s; exact inferInstance
theorem u8s_get {m : List Int} (h : u8s m) (i : Nat) : 0 ≤ bA m i ∧ bA m i < 256 := by
  unfold bA
  rw [List.getD_eq_getElem?_getD]
  cases hi : m[i]? with
  | none => exact ⟨by decide, by decide⟩
  | some x => exact h x (List.mem_of_getElem? hi)
theorem u8s_of {l : List Int} (h : ∀ x ∈ l, Wf (.int .u8) x) : u8s l := by
  intro x hx
  have h2 : (decide (IntKind.u8.min ≤ x) && decide (x ≤ IntKind.u8.max)) = true := h x hx
  have e1 : IntKind.u8.min = 0 := by decide +kernel
  have e2 : IntKind.u8.max = 255 := by decide +kernel
  rw [e1, e2] at h2
  simp only [Bool.and_eq_true, decide_eq_true_eq] at h2
  exact ⟨h2.1, by omega⟩
def visB (pos : Int) : Bool := decide (pos % 64 < 48) && decide (pos / 64 < 32)
def cellF (m : List Int) (pos : Int) : Int := bA m (8 + pos / 64 / 8 * 6 + pos % 64 / 8).toNat % 16
def spriteB (m : List Int) (pos : Int) : Bool :=
  (decide (bA m 1 ≤ pos % 64) && decide (pos % 64 < bA m 1 + 8)) && ((decide (bA m 2 ≤ pos / 64) && decide (pos / 64 < bA m 2 + 8)) && decide (bA m 4 / 2 ^ (7 - (pos % 64 - bA m 1)).toNat % 2 = 1))
def shadeB (m : List Int) (pos : Int) (i : Nat) : Bool :=
  decide (pos % 64 = bA m 1 + i) && ((decide (bA m 2 ≤ pos / 64) && decide (pos / 64 < bA m 2 + 8)) && decide (bA m 4 / 2 ^ (7 - i) % 2 = 1))
theorem sprite_yes {m : List Int} {pos : Int} {i : Nat} (hi : i < 8) (h : shadeB m pos i = true) : spriteB m pos = true := by
  unfold shadeB at h
  simp only [Bool.and_eq_true, decide_eq_true_eq] at h
  obtain ⟨h1, h2, h3⟩ := h
  unfold spriteB
  simp only [Bool.and_eq_true, decide_eq_true_eq]
  refine ⟨⟨by omega, by omega⟩, h2, ?_⟩
  have e : (7 - (pos % 64 - bA m 1)).toNat = 7 - i := by omega
  rw [e]; exact h3
theorem sprite_no {m : List Int} {pos : Int} (h : ∀ i, i < 8 → shadeB m pos i = false) : spriteB m pos = false := by
  cases hs : spriteB m pos with
  | false => rfl
  | true =>
    exfalso
    unfold spriteB at hs
    simp only [Bool.and_eq_true, decide_eq_true_eq] at hs
    obtain ⟨⟨h1, h2⟩, h3, h4⟩ := hs
    have := h (pos % 64 - bA m 1).toNat (by omega)
    have ht : shadeB m pos (pos % 64 - bA m 1).toNat = true := by
      unfold shadeB
      simp only [Bool.and_eq_true, decide_eq_true_eq]
      refine ⟨by omega, h3, ?_⟩
      have e : (7 - (pos % 64 - bA m 1)).toNat = 7 - (pos % 64 - bA m 1).toNat := by omega
      rw [← e]; exact h4
    rw [ht] at this
    cases this
def colorF (m : List Int) (pos : Int) : Int := if visB pos = true then (if spriteB m pos = true then bA m 3 % 16 else cellF m pos) else bA m 0 % 16
def hitB (m : List Int) (pos : Int) : Bool := visB pos && (spriteB m pos && decide (cellF m pos ≠ 0))
theorem cellF_in (m : List Int) (pos : Int) : 0 ≤ cellF m pos ∧ cellF m pos < 16 := by unfold cellF; omega
/-- bits of a byte -/
theorem byte_bit : ∀ x, x < 256 → ∀ i, i < 8 → (shl .u8 ((x : Nat) : Int) ((i : Nat) : Int) ≥ 128 ↔ x / 2 ^ (7 - i) % 2 = 1) := by decide +kernel
theorem byte_bit2 : ∀ x, x < 256 → ∀ i, i < 8 → (land .u8 (shr .u8 ((x : Nat) : Int) ((i : Nat) : Int)) 1 = 1 ↔ x / 2 ^ i % 2 = 1) := by decide +kernel
theorem byte_bitI {x : Int} (h : 0 ≤ x ∧ x < 256) {i : Nat} (hi : i < 8) : shl .u8 x ((i : Nat) : Int) ≥ 128 ↔ x / 2 ^ (7 - i) % 2 = 1 := by
  obtain ⟨n, rfl⟩ := Int.eq_ofNat_of_zero_le h.1
  rw [byte_bit n (by omega) i hi]
  have e : ((n : Int) / 2 ^ (7 - i) % 2) = ((n / 2 ^ (7 - i) % 2 : Nat) : Int) := by simp
  rw [e]; omega
theorem byte_bitI2 {x : Int} (h : 0 ≤ x ∧ x < 256) {i : Nat} (hi : i < 8) : land .u8 (shr .u8 x ((i : Nat) : Int)) 1 = 1 ↔ x / 2 ^ i % 2 = 1 := by
  obtain ⟨n, rfl⟩ := Int.eq_ofNat_of_zero_le h.1
  rw [byte_bit2 n (by omega) i hi]
  have e : ((n : Int) / 2 ^ i % 2) = ((n / 2 ^ i % 2 : Nat) : Int) := by simp
  rw [e]; omega

theorem land15 : ∀ n, n < 256 → land .i64 ((n : Nat) : Int) 15 = ((n : Nat) : Int) % 16 := by decide +kernel
theorem land15I {x : Int} (h : 0 ≤ x ∧ x < 256) : land .i64 (IntKind.i64.wrap x) 15 = x % 16 := by
  rw [w64 (by omega) (by omega)]
  obtain ⟨n, rfl⟩ := Int.eq_ofNat_of_zero_le h.1
  exact land15 n (by omega)
def vP (N : List Int) : Int := if N.length = 0 then 2559 else N.getD 0 0 % 2560
abbrev vH (N : List Int) : Int := N.getD 1 0 % 2
def vN (N : List Int) : List Int := [vP N, vH N]
def vM (M : List Int) : List Int := over (List.replicate 32 0) M 0
theorem vP_in (N : List Int) : 0 ≤ vP N ∧ vP N < 2560 := by unfold vP; split <;> omega
theorem vM_len (M : List Int) : (vM M).length = 32 := by unfold vM; rw [over_length]; rfl
theorem vM_u8 {M : List Int} (h : u8s M) : u8s (vM M) := by
  intro x hx
  have : ∀ (l : List Int) (i : Nat), (∀ y ∈ l, 0 ≤ y ∧ y < 256) → ∀ y ∈ over l M i, 0 ≤ y ∧ y < 256 := by
    intro l
    induction l with
    | nil => intro i _ y hy; cases hy
    | cons d l ih =>
      intro i hl y hy
      rcases List.mem_cons.1 hy with rfl | hy
      · rw [List.getD_eq_getElem?_getD]
        cases hi : M[i]? with
        | none => exact hl d (List.mem_cons_self)
        | some z => exact h z (List.mem_of_getElem? hi)
      · exact ih (i + 1) (fun y hy => hl y (List.mem_cons_of_mem _ hy)) y hy
  exact this _ 0 (fun y hy => by rw [List.eq_of_mem_replicate hy]; decide) x hx
theorem vM_idem {m : List Int} (h : m.length = 32) : vM m = m := by
  unfold vM
  rw [over_eq]
  simp only [List.length_replicate, List.drop_replicate, h, Nat.sub_self, List.replicate_zero, List.append_nil, List.drop_zero]
  exact List.take_of_length_le (by omega)
theorem cell_at {pos : Int} (hp0 : 0 ≤ pos) (hp1 : pos < 2560) : IntKind.i64.wrap (IntKind.i64.wrap (8 + IntKind.i64.wrap (IntKind.i64.wrap (Int.tdiv (IntKind.i64.wrap (Int.tdiv pos 64)) 8) * 6)) + IntKind.i64.wrap (Int.tdiv (Int.tmod pos 64) 8)) = 8 + pos / 64 / 8 * 6 + pos % 64 / 8 := by
  have eq64 : IntKind.i64.wrap (Int.tdiv pos 64) = pos / 64 := by rw [Int.tdiv_eq_ediv_of_nonneg hp0, w64 (by omega) (by omega)]
  have er64 : Int.tmod pos 64 = pos % 64 := Int.tmod_eq_emod_of_nonneg hp0
  rw [eq64, er64, Int.tdiv_eq_ediv_of_nonneg (show 0 ≤ pos / 64 by omega), Int.tdiv_eq_ediv_of_nonneg (show 0 ≤ pos % 64 by omega), w64 (x := pos / 64 / 8) (by omega) (by omega), w64 (x := pos / 64 / 8 * 6) (by omega) (by omega),
    w64 (x := 8 + pos / 64 / 8 * 6) (by omega) (by omega), w64 (x := pos % 64 / 8) (by omega) (by omega), w64 (by omega) (by omega)]
def tickV (m : List Int) : List Int → List Int
  | [p, h] => [(p + 1) % 2560, if hitB m ((p + 1) % 2560) = true then 1 else h]
  | l => l
theorem vN_idem {p h : Int} (hp : 0 ≤ p ∧ p < 2560) (hh : 0 ≤ h ∧ h < 2) : vN [p, h] = [p, h] := by
  show [p % 2560, h % 2] = _
  rw [Int.emod_eq_of_lt hp.1 hp.2, Int.emod_eq_of_lt hh.1 hh.2]
def anyH (m : List Int) (p : Int) (n : Nat) : Bool := (List.range n).any fun j => hitB m ((p + 1 + j) % 2560)
theorem anyH_succ (m : List Int) (p : Int) (n : Nat) : anyH m p (n + 1) = (anyH m p n || hitB m ((p + 1 + n) % 2560)) := by
  unfold anyH
  rw [List.range_succ, List.any_append]; simp
theorem iterV (m : List Int) {p h : Int} (hp : 0 ≤ p ∧ p < 2560) : ∀ n, iterF (tickV m) n [p, h] = [(p + n) % 2560, if anyH m p n = true then 1 else h]
  | 0 => by
    rw [iterF]
    have e : (p + ((0 : Nat) : Int)) % 2560 = p := by omega
    rw [e]; rfl
  | n + 1 => by
    rw [iterF_succ, iterV m hp n, tickV, anyH_succ]
    have e : ((p + (n : Int)) % 2560 + 1) % 2560 = (p + ((n + 1 : Nat) : Int)) % 2560 := by omega
    have e2 : (p + 1 + (n : Int)) % 2560 = (p + ((n + 1 : Nat) : Int)) % 2560 := by omega
    rw [e, e2]
    cases hitB m ((p + ((n + 1 : Nat) : Int)) % 2560) <;> cases anyH m p n <;> rfl
theorem anyH_mono {m : List Int} {p : Int} {a b : Nat} (h : a ≤ b) (ha : anyH m p a = true) : anyH m p b = true := by
  unfold anyH at *
  rw [List.any_eq_true] at *
  obtain ⟨j, hj, hh⟩ := ha
  exact ⟨j, List.mem_range.2 (by have := List.mem_range.1 hj; omega), hh⟩
theorem anyH_all {m : List Int} {p : Int} {a : Nat} (h : 2560 ≤ a) : anyH m p a = anyH m p 2560 := by
  cases h2 : anyH m p 2560 with
  | true => exact anyH_mono h h2
  | false =>
    cases ha : anyH m p a with
    | false => rfl
    | true =>
      exfalso
      unfold anyH at ha h2
      rw [List.any_eq_true] at ha
      obtain ⟨j, hj, hh⟩ := ha
      rw [List.any_eq_false] at h2
      refine h2 (j % 2560) (List.mem_range.2 (by omega)) ?_
      have e : (p + 1 + ((j % 2560 : Nat) : Int)) % 2560 = (p + 1 + (j : Int)) % 2560 := by omega
      rw [e]; exact hh
theorem iterV_far (m : List Int) {p h : Int} (hp : 0 ≤ p ∧ p < 2560) {n : Nat} (hn : 5120 < n) : iterF (tickV m) n [p, h] = iterF (tickV m) (2560 + n % 2560) [p, h] := by
  rw [iterV m hp, iterV m hp, anyH_all (by omega), anyH_all (a := 2560 + n % 2560) (by omega)]
  have e : (p + (n : Int)) % 2560 = (p + ((2560 + n % 2560 : Nat) : Int)) % 2560 := by omega
  rw [e]

end Go.Proofs.Ytanaaecfghmmaaa

/- Numbers from bytes: one number. -/
namespace Go.Proofs.Ytanaaecfghmmaaa
open Go.Fw
set_option linter.unusedVariables false
set_option linter.unusedSimpArgs false
set_option linter.constructorNameAsVariable false
set_option maxRecDepth 100000

def nextG : Nat → Nat → List Int → Option (Nat × List Int)
  | _, _, [] => none
  | i, u, c :: r =>
    if 63 < 7 * i ∨ (7 * i = 63 ∧ c > 1) then none
    else if c < 128 then (if c = 0 ∧ 0 < i then none else some (u + (c % 128).toNat * 2 ^ (7 * i), r))
    else nextG (i + 1) (u + (c % 128).toNat * 2 ^ (7 * i)) r
def decN (u : Nat) : Int := if u % 2 = 1 then -((u / 2 : Nat) : Int) - 1 else ((u / 2 : Nat) : Int)
def nextV (b : List Int) : Int := match nextG 0 0 b with | some x => decN x.1 | none => 0
def nextR (b : List Int) : List Int := match nextG 0 0 b with | some x => x.2 | none => []
def nextB (b : List Int) (bad : Bool) : Bool := match nextG 0 0 b with | some _ => bad | none => true
theorem drop_cons {b : List Int} {k : Nat} (h : k < b.length) : b.drop k = b.getD k 0 :: b.drop (k + 1) := by
  rw [List.drop_eq_getElem_cons h, List.getD_eq_getElem?_getD, List.getElem?_eq_getElem h]; rfl
def nextI (b : List Int) (k v : Nat) : Prop := k ≤ 10 ∧ v < 18446744073709551616 ∧ (k ≤ 9 → v < 2 ^ (7 * k)) ∧ nextG k v (b.drop k) = nextG 0 0 b
theorem nx_end {b : List Int} {k v : Nat} (h : nextI b k v) (hk : ¬ k < b.length) : nextG 0 0 b = none := by
  rw [← h.2.2.2, List.drop_of_length_le (by omega)]; rfl
theorem nx_big {b : List Int} {k v : Nat} (h : nextI b k v) (hk : k < b.length) (h1 : 63 < 7 * k ∨ (7 * k = 63 ∧ b.getD k 0 > 1)) : nextG 0 0 b = none := by
  rw [← h.2.2.2, drop_cons hk, nextG, if_pos h1]
theorem nx_zero {b : List Int} {k v : Nat} (h : nextI b k v) (hk : k < b.length) (h1 : ¬ (63 < 7 * k ∨ (7 * k = 63 ∧ b.getD k 0 > 1))) (h2 : b.getD k 0 = 0) (h3 : 0 < k) : nextG 0 0 b = none := by
  rw [← h.2.2.2, drop_cons hk, nextG, if_neg h1, if_pos (by omega), if_pos ⟨h2, h3⟩]
theorem nx_done {b : List Int} {k v : Nat} (h : nextI b k v) (hk : k < b.length) (h1 : ¬ (63 < 7 * k ∨ (7 * k = 63 ∧ b.getD k 0 > 1))) (h2 : b.getD k 0 < 128) (h3 : ¬ (b.getD k 0 = 0 ∧ 0 < k)) :
    nextG 0 0 b = some (v + (b.getD k 0 % 128).toNat * 2 ^ (7 * k), b.drop (k + 1)) := by
  rw [← h.2.2.2, drop_cons hk, nextG, if_neg h1, if_pos h2, if_neg h3]
theorem pow7 {k : Nat} (h : k ≤ 9) : 2 ^ (7 * k) * 2 ≤ 18446744073709551616 ∧ (k ≤ 8 → 2 ^ (7 * k) * 128 ≤ 18446744073709551616) ∧ 2 ^ (7 * (k + 1)) = 2 ^ (7 * k) * 128 := by
  have hc : k = 0 ∨ k = 1 ∨ k = 2 ∨ k = 3 ∨ k = 4 ∨ k = 5 ∨ k = 6 ∨ k = 7 ∨ k = 8 ∨ k = 9 := by omega
  rcases hc with rfl | rfl | rfl | rfl | rfl | rfl | rfl | rfl | rfl | rfl <;> decide
/-- the next sum stays in its bounds -/
theorem nx_sum {k v : Nat} {c : Int} (hk : k ≤ 9) (hv : v < 2 ^ (7 * k)) (hc : 0 ≤ c ∧ c < 256) (h1 : ¬ (7 * k = 63 ∧ c > 1)) : v + (c % 128).toNat * 2 ^ (7 * k) < 18446744073709551616 ∧ (k + 1 ≤ 9 → v + (c % 128).toNat * 2 ^ (7 * k) < 2 ^ (7 * (k + 1))) := by
  obtain ⟨p1, p2, p3⟩ := pow7 hk
  generalize hP : 2 ^ (7 * k) = P at *
  by_cases h9 : k = 9
  · have hc1 : (c % 128).toNat ≤ 1 := by omega
    have := Nat.mul_le_mul_right P hc1
    exact ⟨by omega, by omega⟩
  · have hc1 : (c % 128).toNat ≤ 127 := by omega
    have := Nat.mul_le_mul_right P hc1
    have h8 := p2 (by omega)
    exact ⟨by omega, fun _ => by rw [p3]; omega⟩
theorem nx_go {b : List Int} {k v : Nat} (h : nextI b k v) (hk : k < b.length) (h1 : ¬ (63 < 7 * k ∨ (7 * k = 63 ∧ b.getD k 0 > 1))) (h2 : ¬ b.getD k 0 < 128) (hc : 0 ≤ b.getD k 0 ∧ b.getD k 0 < 256) :
    nextI b (k + 1) (v + (b.getD k 0 % 128).toNat * 2 ^ (7 * k)) := by
  obtain ⟨a1, a2, a3, a4⟩ := h
  have hs := nx_sum (k := k) (v := v) (c := b.getD k 0) (by omega) (a3 (by omega)) hc (fun e => h1 (.inr e))
  refine ⟨by omega, hs.1, hs.2, ?_⟩
  rw [← a4, drop_cons hk, nextG, if_neg h1, if_neg h2]
theorem land127_u8 : ∀ x : Int, 0 ≤ x → x < 256 → land .u8 x 127 = x % 128 := fin256 (fun x => land .u8 x 127 = x % 128) (by decide +kernel)
theorem lor_add {v x k : Nat} (hv : v < 2 ^ k) : v ||| x * 2 ^ k = v + x * 2 ^ k := by
  rw [Nat.or_comm, Nat.mul_comm, ← Nat.two_pow_add_eq_or_of_lt hv, Nat.add_comm]
theorem loru_nat {a b : Nat} (ha : a < 2 ^ 64) (hb : b < 2 ^ 64) : lor .u64 (a : Int) (b : Int) = ((a ||| b : Nat) : Int) := by
  show (((BitVec.ofInt 64 (a : Int) ||| BitVec.ofInt 64 (b : Int)).toNat : Nat) : Int) % 18446744073709551616 = _
  rw [BitVec.toNat_or, ofInt_toNat, ofInt_toNat, u64_nat ha, u64_nat hb]
  have := Nat.or_lt_two_pow ha hb
  omega
/-- what the walk adds -/
theorem nx_or {k v : Nat} {c : Int} (hk : k ≤ 9) (hv : v < 2 ^ (7 * k)) (hc : 0 ≤ c ∧ c < 256) (h1 : ¬ (7 * k = 63 ∧ c > 1)) :
    lor .u64 (v : Int) (shl .u64 (IntKind.u64.wrap (land .u8 c 127)) (7 * (k : Int))) = ((v + (c % 128).toNat * 2 ^ (7 * k) : Nat) : Int) := by
  have hs := (nx_sum hk hv hc h1).1
  have e1 : IntKind.u64.wrap (land .u8 c 127) = (((c % 128).toNat : Nat) : Int) := by rw [land127_u8 _ hc.1 hc.2, wu64]; omega
  have e2 : shl .u64 (((c % 128).toNat : Nat) : Int) (7 * (k : Int)) = (((c % 128).toNat * 2 ^ (7 * k) : Nat) : Int) := by
    show (((c % 128).toNat : Nat) : Int) * 2 ^ (min (7 * (k : Int)).toNat 64) % 18446744073709551616 = _
    rw [show (7 * (k : Int)).toNat = 7 * k by omega, Nat.min_eq_left (by omega)]
    have : ((((c % 128).toNat * 2 ^ (7 * k) : Nat)) : Int) = (((c % 128).toNat : Nat) : Int) * 2 ^ (7 * k) := by simp
    rw [← this]
    omega
  rw [e1, e2, loru_nat (by omega) (by omega), lor_add hv]
theorem lnot_i64 {x : Int} (h : 0 ≤ x ∧ x ≤ 9223372036854775807) : lxor .i64 (-1) x = -x - 1 := by
  obtain ⟨n, rfl⟩ := Int.eq_ofNat_of_zero_le h.1
  have hn : n < 2 ^ 64 := by omega
  show IntKind.i64.wrap (((BitVec.ofInt 64 (-1) ^^^ BitVec.ofInt 64 (n : Int)).toNat : Nat) : Int) = _
  have e : BitVec.ofInt 64 (-1) = BitVec.allOnes 64 := by decide
  rw [e, BitVec.allOnes_xor, BitVec.toNat_not, ofInt_toNat, u64_nat hn, w64e]
  omega

theorem var_ro {l l' : List Int} {x y : Bool} (h : l = l') (h2 : x = y) : [some (Blk.var [.ro (.int .u8) l, bv x])] = [some (Blk.var [.ro (.int .u8) l', bv y])] := by rw [h, h2]
theorem nx_none {b : List Int} (bad : Bool) (h : nextG 0 0 b = none) : nextV b = 0 ∧ nextR b = [] ∧ nextB b bad = true := by
  unfold nextV nextR nextB; rw [h]; exact ⟨rfl, rfl, rfl⟩
theorem nx_some {b r : List Int} {w : Nat} (bad : Bool) (h : nextG 0 0 b = some (w, r)) : nextV b = decN w ∧ nextR b = r ∧ nextB b bad = bad := by
  unfold nextV nextR nextB; rw [h]; exact ⟨rfl, rfl, rfl⟩
theorem decN_0 {w : Nat} (hw : w < 18446744073709551616) (h : ¬ land .u64 (w : Int) 1 = 1) : IntKind.i64.wrap (shr .u64 (w : Int) 1) = decN w := by
  rw [land1_u64 (by omega)] at h
  unfold decN
  rw [if_neg (by omega), shr1_u64, w64 (by omega) (by omega)]; omega
theorem decN_1 {w : Nat} (hw : w < 18446744073709551616) (h : land .u64 (w : Int) 1 = 1) : lxor .i64 (-1) (IntKind.i64.wrap (shr .u64 (w : Int) 1)) = decN w := by
  rw [land1_u64 (by omega)] at h
  unfold decN
  rw [if_pos (by omega), shr1_u64, w64 (by omega) (by omega), lnot_i64 (by omega)]; omega
def nextRd : List V1 → List Blk → Option (List Int × Bool) := fun a b => match a, b with
  | [.c (.ptr 0 0)], [.var [.ro (.int .u8) l, .imm (.bool bad)]] => some (l, bad)
  | _, _ => none
theorem nextRd_ok {a : List V1} {b : List Blk} {x : List Int × Bool} (h : nextRd a b = some x) : a = [.c (.ptr 0 0)] ∧ b = [.var [.ro (.int .u8) x.1, bv x.2]] := by
  unfold nextRd at h
  split at h
  · injection h with h; subst h; exact ⟨rfl, rfl⟩
  · cases h
def nextWS : WSpec := ⟨List Int × Bool, fun _ => [.c (.ptr 0 0)], fun x => [.var [.ro (.int .u8) x.1, bv x.2]], nextRd,
  fun (b, bad) => (some (u8s b ∧ b.length ≤ 4611686018427387904), I (nextV b), [some (.var [.ro (.int .u8) (nextR b), bv (nextB b bad)])], [])⟩
set_option maxHeartbeats 8000000 in
theorem next_ok : GoodF Try.prog 50 nextWS.spec := by
  have hT := tab_ok (fs := []) tree_ok
  have hP : SpecsOk Try.prog (tab tree []) := specs_nil
  refine nextWS.good (fn := Try.f50) hT hP Try.func50 (by kernel_rfl) rfl (fun _ _ _ h => nextRd_ok h) fun ((b, bad) : List Int × Bool) hq => ?_
  obtain ⟨hu, hbl0⟩ : u8s b ∧ b.length ≤ 4611686018427387904 := hq _ rfl
  clear hq
  repeat' first
    | (refine Go.mk ?_; conv => whnf)
    | refine Need.go ?_ ?_
    | refine NilG.go (fun _ => ?_) (fun _ => ?_)
    | refine Br.dec (fun _ => ?_) (fun _ => ?_)
    | refine Br.go (fun _ => ?_) (fun _ => ?_)
    | refine draw_go hT hP mixed ?_
    | refine round_go hT hP ?_
  all_goals first
    | exact of_decide_eq_true rfl
    | skip
  refine loop_go hT hP (X := Int × Int × Int) (fun (i, u, s) => St.mk [.cell (.ptr 0 0), .dead, .dead, .cell (iv .u64 u), I s, .dead, .dead, .dead, .dead, .dead, .dead, .cell (.ro (.int .u8) b), I (b.length : Int), I i, .dead, .dead, .dead, .dead, .dead, .dead, .dead, .dead, .dead, .dead, .dead, .dead, .dead, .dead, .dead, .dead, .dead, .dead, .dead, .dead, .dead, .dead, .dead, .dead, .dead, .dead, .dead, .dead, .dead, .dead, .dead, .dead, .dead, .dead, .dead, .dead, .dead, .dead, .dead, .dead, .dead, .dead, .dead, .dead, .dead, .dead, .dead, .dead, .dead, .dead, .dead, .dead, .dead, .dead, .dead, .dead, .dead] [some (.var [.ro (.int .u8) b, bv bad])])
    (fun (i, u, s) => ∃ k v : Nat, i = k ∧ u = v ∧ s = 7 * (k : Int) ∧ nextI b k v) (fun (i, u, s) => ((b.length : Int) - i).toNat) (0, 0, 0) (Le.mk [] [0] rfl rfl ?_ ?_) ?_ fun (i, u, s) hi => ?_
  · exact rfl
  · repeat' first | exact trivial | exact ⟨rfl, rfl⟩ | refine And.intro ?_ ?_
  · exact ⟨0, 0, rfl, rfl, rfl, by omega, by omega, by simp, rfl⟩
  obtain ⟨k, v, rfl, rfl, rfl, hI⟩ := hi
  have hb := u8s_get hu k
  have hb : 0 ≤ b.getD k 0 ∧ b.getD k 0 < 256 := hb
  have hk10 := hI.1
  have hv64 := hI.2.1
  have hbl : b.length ≤ 4611686018427387904 := hbl0
  repeat' first
    | (refine Go.mk ?_; conv => whnf)
    | refine Need.go ?_ ?_
    | refine NilG.go (fun _ => ?_) (fun _ => ?_)
    | refine Br.dec (fun _ => ?_) (fun _ => ?_)
    | refine Br.go (fun _ => ?_) (fun _ => ?_)
    | refine draw_go hT hP mixed ?_
    | refine round_go hT hP ?_
  all_goals
    have ec : List.getD (α := Den (.int .u8)) b ((k : Int)).toNat (dflt (.int .u8)) = b.getD k 0 := rfl
    try simp only [ec] at *
    clear ec
  all_goals clear hT hP
  all_goals
    generalize hc : b.getD k 0 = c at *
  all_goals first
    | exact of_decide_eq_true rfl
    | (show 0 ≤ (k : Int) ∧ (k : Int) < (b.length : Int)
       omega)
    | (show 0 ≤ IntKind.i64.wrap ((k : Int) + 1) ∧ IntKind.i64.wrap ((k : Int) + 1) ≤ (b.length : Int)
       rw [w64 (by omega) (by omega)]
       omega)
    | (have hN : nextG 0 0 b = none := by
         first
           | exact nx_end hI (by omega)
           | exact nx_big hI (by omega) (by rw [hc]; omega)
           | exact nx_zero hI (by omega) (by rw [hc]; omega) (by rw [hc]; omega) (by omega)
       obtain ⟨e1, e2, e3⟩ := nx_none bad hN
       exact .le (Le.nilroH 0 [.imm (.slice none 0 0), bv true] [.ro (.int .u8) [], bv true] rfl ⟨.inr ⟨rfl, _, rfl⟩, .inl rfl, trivial⟩) (.mk [] [0] _ rfl rfl rfl rfl rfl (var_ro e2.symm e3.symm) (imm_int e1.symm)))
    | (have hk9 : k ≤ 9 := by omega
       have hN := nx_done hI (by omega) (by rw [hc]; omega) (by rw [hc]; omega) (by rw [hc]; omega)
       rw [hc] at hN
       have hs := (nx_sum (k := k) (v := v) (c := c) hk9 (hI.2.2.1 hk9) hb (by omega)).1
       have eor := nx_or (k := k) (v := v) (c := c) hk9 (hI.2.2.1 hk9) hb (by omega)
       obtain ⟨e1, e2, e3⟩ := nx_some bad hN
       simp only [eor] at *
       have ed : (b.take b.length).drop (IntKind.i64.wrap ((k : Int) + 1)).toNat = nextR b := by rw [e2, List.take_length, up_i (by omega)]; rfl
       rename_i h
       first
         | exact .mk [] [0] _ rfl rfl rfl rfl rfl (var_ro ed e3.symm) (imm_int ((decN_1 hs h).trans e1.symm))
         | exact .mk [] [0] _ rfl rfl rfl rfl rfl (var_ro ed e3.symm) (imm_int ((decN_0 hs h).trans e1.symm)))
    | skip
  all_goals
    have hk9 : k ≤ 9 := by omega
    have hg := nx_go hI (by omega) (by rw [hc]; omega) (by rw [hc]; omega) (by rw [hc]; exact hb)
    rw [hc] at hg
    have eor := nx_or (k := k) (v := v) (c := c) hk9 (hI.2.2.1 hk9) hb (by omega)
    apply Exists.intro (IntKind.i64.wrap ((k : Int) + 1), lor .u64 (v : Int) (shl .u64 (IntKind.u64.wrap (land .u8 c 127)) (7 * (k : Int))), IntKind.i64.wrap (7 * (k : Int) + 7))
    refine And.intro ?_ (And.intro ?_ (Le.mk [] [0] rfl rfl ?hh ?ht))
    case hh => exact rfl
    case ht => repeat' first | exact trivial | exact ⟨rfl, rfl⟩ | refine And.intro ?_ ?_
    · exact ⟨k + 1, _, up_i (by omega), eor, by show IntKind.i64.wrap (7 * (k : Int) + 7) = 7 * ((k + 1 : Nat) : Int); rw [w64 (by omega) (by omega)]; omega, hg⟩
    · show ((b.length : Int) - IntKind.i64.wrap ((k : Int) + 1)).toNat < ((b.length : Int) - (k : Int)).toNat
      rw [up_i (by omega)]; omega

end Go.Proofs.Ytanaaecfghmmaaa

/- Numbers from bytes: how many; a state that was just written. -/
namespace Go.Proofs.Ytanaaecfghmmaaa
open Go.Fw
set_option linter.unusedVariables false
set_option linter.unusedSimpArgs false
set_option linter.constructorNameAsVariable false
set_option maxRecDepth 100000

def manyB (b : List Int) : Bool := decide (nextV b < 0 ∨ nextV b > (nextR b).length)
def manyWS : WSpec := ⟨List Int × Bool, fun _ => [.c (.ptr 0 0)], fun x => [.var [.ro (.int .u8) x.1, bv x.2]], nextRd,
  fun (b, bad) => (some (u8s b ∧ b.length ≤ 4611686018427387904), I (if manyB b = true then 0 else nextV b), [some (.var [.ro (.int .u8) (nextR b), bv (if manyB b = true then true else nextB b bad)])], [])⟩
theorem many_ok : GoodF Try.prog 51 manyWS.spec := by
  have hT := tab_ok (fs := [(50, nextWS.spec)]) tree_ok
  have hP : SpecsOk Try.prog (tab tree [(50, nextWS.spec)]) := specs_cons next_ok specs_nil
  refine manyWS.good (fn := Try.f51) hT hP Try.func51 (by kernel_rfl) rfl (fun _ _ _ h => nextRd_ok h) fun ((b, bad) : List Int × Bool) hq => ?_
  have hu : u8s b ∧ b.length ≤ 4611686018427387904 := hq _ rfl
  clear hq
  repeat' first
    | (refine Go.mk ?_; conv => whnf)
    | refine Need.go ?_ ?_
    | refine NilG.go (fun _ => ?_) (fun _ => ?_)
    | refine Br.dec (fun _ => ?_) (fun _ => ?_)
    | refine Br.go (fun _ => ?_) (fun _ => ?_)
    | refine draw_go hT hP mixed ?_
    | refine round_go hT hP ?_
  all_goals first
    | exact of_decide_eq_true rfl
    | exact hu
    | skip
  all_goals clear hT hP
  · rename_i h
    have h : nextV b < 0 := h
    have hm : manyB b = true := decide_eq_true (.inl h)
    exact .mk [] [0] _ rfl rfl rfl rfl rfl (var_ro rfl (by rw [hm]; rfl)) (imm_int (by rw [hm]; rfl))
  · rename_i h1 h
    have h : nextV b > ((nextR b).length : Int) := h
    have hm : manyB b = true := decide_eq_true (.inr h)
    exact .mk [] [0] _ rfl rfl rfl rfl rfl (var_ro rfl (by rw [hm]; rfl)) (imm_int (by rw [hm]; rfl))
  · rename_i h1 h
    have h1 : ¬ nextV b < 0 := h1
    have h : ¬ nextV b > ((nextR b).length : Int) := h
    have hm : manyB b = false := decide_eq_false (by omega)
    exact .mk [] [0] _ rfl rfl rfl rfl rfl (var_ro rfl (by rw [hm]; rfl)) (imm_int (by rw [hm]; rfl))

def bytes0 : List Int := [128, 1, 0, 0, 0, 0, 0, 0, 0, 0, 0, 0, 0, 0, 0, 0, 0, 0]
def read0S : PSpec := ⟨[gb], fun (b, _) => (some (b = bytes0), .tup [.agg [iv .i64 64, .run .i64 9 [0, 0, 0, 0, 0, 0, 0, 0, 0], iv .i64 0, iv .i64 0, bv false, .imm (.slice none 0 0), iv .i64 0, iv .i64 0, iv .i64 0], .c (iv .i64 0)], [])⟩
set_option maxHeartbeats 8000000 in
theorem read0_ok : GoodF Try.prog 15 read0S.spec := by
  have hT := tab_ok (fs := [(50, nextWS.spec), (51, manyWS.spec)]) tree_ok
  have hP : SpecsOk Try.prog (tab tree [(50, nextWS.spec), (51, manyWS.spec)]) := specs_cons next_ok (specs_cons many_ok specs_nil)
  refine read0S.good (fn := Try.f15) hT hP Try.func15 (by kernel_rfl) rfl fun (b : List Int) hq => ?_
  obtain rfl : b = bytes0 := hq _ rfl
  clear hq
  repeat' first
    | (refine Go.mk ?_; conv => whnf)
    | refine Need.go ?_ ?_
    | refine NilG.go (fun _ => ?_) (fun _ => ?_)
    | refine Br.dec (fun _ => ?_) (fun _ => ?_)
    | refine Br.go (fun _ => ?_) (fun _ => ?_)
    | refine draw_go hT hP mixed ?_
    | refine round_go hT hP ?_
  all_goals first
    | exact of_decide_eq_true rfl
    | skip
  refine loop_unroll 10 ?_
  repeat' first
    | (refine Go.mk ?_; conv => whnf)
    | refine Need.go ?_ ?_
    | refine NilG.go (fun _ => ?_) (fun _ => ?_)
    | refine Br.dec (fun _ => ?_) (fun _ => ?_)
    | refine Br.go (fun _ => ?_) (fun _ => ?_)
    | refine draw_go hT hP mixed ?_
    | refine round_go hT hP ?_
  all_goals first
    | exact of_decide_eq_true rfl
    | skip
  refine up_go hT hP 0 (fun i (_ : Unit) => St.mk [.dead, .dead, .cell (.ptr 0 0), .dead, .cell (.ptr 1 0), .cell (.ptr 2 0), .dead, I 0, .dead, .dead, .dead, .dead, .dead, .dead, .dead, .dead, .dead, .dead, .dead, .dead, .dead, .dead, .dead, .dead, .dead, .dead, .dead, .dead, .dead, .dead, .dead, .dead, .dead, .dead, .dead, .dead, .dead, .dead, .dead, .dead, .dead, .dead, .dead, .dead, .dead, .dead, .dead, .dead, .dead, .dead, .dead, .dead, .dead, I 0, I i, .dead, .dead, .dead, .dead, .dead, .dead, .dead, .dead, .dead, .dead, .dead, .dead, .dead, .dead, .dead, .dead, .dead, .dead, .dead, .dead, .dead, .dead, .dead, .dead, .dead, .dead, .dead, .dead, .dead, .dead, .dead, .dead, .dead, .dead, .dead, .dead, .dead, .dead, .dead, .dead, .dead, .dead, .dead, .dead, .dead, .dead, .dead, .dead, .dead, .dead, .dead, .dead, .dead, .dead, .dead, .dead, .dead, .dead, .dead, .dead, .dead]
      [some (.var [iv .i64 0, .run .i64 9 [0, 0, 0, 0, 0, 0, 0, 0, 0], iv .i64 0, iv .i64 0, bv false, .imm (.slice none 0 0), iv .i64 0, iv .i64 0, iv .i64 0]), some (.var [.ro (.int .u8) [], bv false]),
       some (.var [iv .i64 64, .run .i64 9 [0, 0, 0, 0, 0, 0, 0, 0, 0], iv .i64 0, iv .i64 0, bv false, .imm (.slice none 0 0), iv .i64 0, iv .i64 0, iv .i64 0])])
    (fun k _ => True) () (Le.mk [] [0, 1, 2] rfl rfl ?_ ?_) trivial fun k _ hk _ => ?_
  · exact rfl
  · repeat' first | exact trivial | exact ⟨rfl, rfl⟩ | refine And.intro ?_ ?_
  obtain rfl : k = 0 := by omega
  repeat' first
    | (refine Go.mk ?_; conv => whnf)
    | refine Need.go ?_ ?_
    | refine NilG.go (fun _ => ?_) (fun _ => ?_)
    | refine Br.dec (fun _ => ?_) (fun _ => ?_)
    | refine Br.go (fun _ => ?_) (fun _ => ?_)
    | refine draw_go hT hP mixed ?_
    | refine round_go hT hP ?_
  all_goals first
    | exact of_decide_eq_true rfl
    | skip
  exact .mk [] [] _ rfl rfl rfl rfl rfl rfl rfl

end Go.Proofs.Ytanaaecfghmmaaa

/- What bytes say: a state; plain. -/
namespace Go.Proofs.Ytanaaecfghmmaaa
open Go.Fw
set_option linter.unusedVariables false
set_option linter.unusedSimpArgs false
set_option linter.constructorNameAsVariable false
set_option maxRecDepth 100000

def nxO (b : List Int) : Option (Int × List Int) := match nextG 0 0 b with | some x => some (decN x.1, x.2) | none => none
def nums : Nat → List Int → List Int → Option (List Int × List Int)
  | 0, a, b => some (a, b)
  | k + 1, a, b => match nxO b with | some (v, r) => nums k (a ++ [v]) r | none => none
def devs : Nat → List Dv → List Int → Option (List Dv × List Int)
  | 0, a, b => some (a, b)
  | n + 1, a, b => match nxO b with
    | none => none
    | some (k, r) => if k < 0 then none else match nums k.toNat [] r with
      | none => none
      | some (N, r2) => match nxO r2 with
        | none => none
        | some (m, r3) => if m < 0 ∨ m > (r3.length : Int) then none else devs n (a ++ [(N, r3.take m.toNat)]) (r3.drop m.toNat)
def machOf (h : List Int) (ds : List Dv) : Mach := (h.getD 0 0, ((h.drop 1).take 9, h.getD 10 0, h.getD 11 0, decide (h.getD 12 0 = 1)), ds, h.getD 13 0, h.getD 14 0, h.getD 15 0)
def fin (h : List Int) : Option (List Dv × List Int) → Option Mach
  | none => none
  | some (ds, r) => if r.length > 0 then none else if h.getD 12 0 = 0 ∨ h.getD 12 0 = 1 then some (machOf h ds) else none
def bodyF (h : List Int) (b : List Int) : Option Mach := match nxO b with
  | none => none
  | some (n, r) => if n < 0 then none else fin h (devs n.toNat [] r)
def readF (b : List Int) : Option Mach := match nums 16 [] b with
  | none => none
  | some (h, r) => bodyF h r

theorem nextG_len : ∀ (b : List Int) (i u w : Nat) (r : List Int), nextG i u b = some (w, r) → r.length < b.length ∧ ∃ k, r = b.drop k
  | [], i, u, w, r, h => by simp [nextG] at h
  | c :: b, i, u, w, r, h => by
    unfold nextG at h
    split at h
    · cases h
    · split at h
      · split at h
        · cases h
        · injection h with h
          injection h with _ h
          subst h
          exact ⟨by simp, 1, rfl⟩
      · obtain ⟨h1, k, h2⟩ := nextG_len b _ _ w r h
        exact ⟨by simp only [List.length_cons]; omega, k + 1, h2⟩
theorem nxO_len {b r : List Int} {v : Int} (h : nxO b = some (v, r)) : r.length < b.length ∧ ∃ k, r = b.drop k := by
  unfold nxO at h
  split at h
  · rename_i x hx
    injection h with h
    injection h with _ h
    obtain ⟨w, r'⟩ := x
    subst h
    exact nextG_len _ _ _ _ _ hx
  · cases h
theorem nxO_u8 {b r : List Int} {v : Int} (h : nxO b = some (v, r)) (hu : u8s b) : u8s r := by
  obtain ⟨_, k, rfl⟩ := nxO_len h
  exact fun x hx => hu x (List.mem_of_mem_drop hx)
theorem nums_snoc : ∀ (k : Nat) (a b : List Int), nums (k + 1) a b = match nums k a b with | some (N, r) => (match nxO r with | some (v, r') => some (N ++ [v], r') | none => none) | none => none
  | 0, a, b => by
    simp only [nums]
  | k + 1, a, b => by
    rw [nums]
    cases h : nxO b with
    | none => simp [nums, h]
    | some x =>
      obtain ⟨v, r⟩ := x
      have e : nums (k + 1) a b = nums k (a ++ [v]) r := by rw [nums, h]
      rw [e]
      exact nums_snoc k (a ++ [v]) r
theorem nums_len : ∀ (k : Nat) (a b N r : List Int), nums k a b = some (N, r) → k + r.length ≤ b.length ∧ N.length = a.length + k ∧ ∃ j, r = b.drop j
  | 0, a, b, N, r, h => by
    injection h with h
    injection h with h1 h2
    subst h1; subst h2
    exact ⟨by omega, rfl, 0, rfl⟩
  | k + 1, a, b, N, r, h => by
    unfold nums at h
    split at h
    · rename_i v r1 h1
      obtain ⟨h2, j, h3⟩ := nxO_len h1
      obtain ⟨h4, h5, j2, h6⟩ := nums_len k _ _ N r h
      rw [List.length_append] at h5
      exact ⟨by omega, by simp at h5; omega, j + j2, by rw [h6, h3, List.drop_drop]⟩
    · cases h
theorem nums_many {k : Nat} {a b : List Int} (h : b.length < k) : nums k a b = none := by
  cases e : nums k a b with
  | none => rfl
  | some x =>
    obtain ⟨N, r⟩ := x
    have := (nums_len k a b N r e).1
    omega
theorem devsF_len : ∀ (n : Nat) (a : List Dv) (b : List Int) (ds : List Dv) (r : List Int), devs n a b = some (ds, r) → 2 * n + r.length ≤ b.length
  | 0, a, b, ds, r, h => by
    injection h with h
    injection h with h1 h2
    subst h2; omega
  | n + 1, a, b, ds, r, h => by
    unfold devs at h
    split at h
    · cases h
    · rename_i k r1 h1
      split at h
      · cases h
      · split at h
        · cases h
        · rename_i N r2 h2
          split at h
          · cases h
          · rename_i m r3 h3
            split at h
            · cases h
            · have a1 := (nxO_len h1).1
              have a2 := (nums_len _ _ _ _ _ h2).1
              have a3 := (nxO_len h3).1
              have a4 := devsF_len n _ _ ds r h
              rw [List.length_drop] at a4
              omega
theorem devs_many {n : Nat} {a : List Dv} {b : List Int} (h : b.length < n) : devs n a b = none := by
  cases e : devs n a b with
  | none => rfl
  | some x =>
    obtain ⟨N, r⟩ := x
    have := devsF_len n a b N r e
    omega

theorem nx_cases (b : List Int) (bad : Bool) : (∃ v r, nxO b = some (v, r) ∧ nextV b = v ∧ nextR b = r ∧ nextB b bad = bad) ∨ (nxO b = none ∧ nextV b = 0 ∧ nextR b = [] ∧ nextB b bad = true) := by
  unfold nxO
  cases h : nextG 0 0 b with
  | none => exact .inr ⟨rfl, nx_none bad h⟩
  | some x =>
    obtain ⟨w, r⟩ := x
    exact .inl ⟨decN w, r, rfl, nx_some bad h⟩
/-- after k numbers -/
def headQ (b0 : List Int) (k : Nat) (a rb : List Int) (bad : Bool) : Prop := (bad = false → nums k [] b0 = some (a, rb)) ∧ (bad = true → nums k [] b0 = none)
theorem headQ_step {b0 a rb : List Int} {k : Nat} {bad : Bool} (h : headQ b0 k a rb bad) : headQ b0 (k + 1) (a ++ [nextV rb]) (nextR rb) (nextB rb bad) := by
  unfold headQ
  rw [nums_snoc]
  cases bad with
  | true =>
    rw [h.2 rfl]
    rcases nx_cases rb true with ⟨v, r, e1, e2, e3, e4⟩ | ⟨e1, e2, e3, e4⟩
    · rw [e4]; exact ⟨fun h => (by cases h), fun _ => rfl⟩
    · rw [e4]; exact ⟨fun h => (by cases h), fun _ => rfl⟩
  | false =>
    rw [h.1 rfl]
    dsimp only
    rcases nx_cases rb false with ⟨v, r, e1, e2, e3, e4⟩ | ⟨e1, e2, e3, e4⟩
    · rw [e1, e2, e3, e4]; exact ⟨fun _ => rfl, fun h => (by cases h)⟩
    · rw [e1, e4]; exact ⟨fun h => (by cases h), fun _ => rfl⟩

-- bounds of what was read

theorem decN_64 {w : Nat} (h : w < 18446744073709551616) : i64P (decN w) := by
  unfold decN i64P; split <;> omega
theorem nextG_lt : ∀ (b : List Int) (i u w : Nat) (r : List Int), u8s b → (i ≤ 9 → u < 2 ^ (7 * i)) → i ≤ 10 → nextG i u b = some (w, r) → w < 18446744073709551616
  | [], i, u, w, r, _, _, _, h => by simp [nextG] at h
  | c :: b, i, u, w, r, hu, hlt, hi, h => by
    unfold nextG at h
    have hc := hu c (List.mem_cons_self ..)
    split at h
    · cases h
    · rename_i h1
      have hi9 : i ≤ 9 := by omega
      have hs := nx_sum (k := i) (v := u) (c := c) hi9 (hlt hi9) hc (fun e => h1 (.inr e))
      split at h
      · split at h
        · cases h
        · injection h with h
          injection h with h _
          rw [← h]; exact hs.1
      · exact nextG_lt b (i + 1) _ w r (fun x hx => hu x (List.mem_cons_of_mem _ hx)) hs.2 (by omega) h
theorem nxO_64 {b r : List Int} {v : Int} (hu : u8s b) (h : nxO b = some (v, r)) : i64P v := by
  unfold nxO at h
  split at h
  · rename_i x hx
    injection h with h
    injection h with h _
    obtain ⟨w, r'⟩ := x
    rw [← h]
    exact decN_64 (nextG_lt b 0 0 w r' hu (fun _ => by decide) (by decide) hx)
  · cases h
theorem nums_64 : ∀ (k : Nat) (a b N r : List Int), u8s b → (∀ n ∈ a, i64P n) → nums k a b = some (N, r) → (∀ n ∈ N, i64P n) ∧ u8s r
  | 0, a, b, N, r, hu, ha, h => by
    injection h with h
    injection h with h1 h2
    subst h1; subst h2
    exact ⟨ha, hu⟩
  | k + 1, a, b, N, r, hu, ha, h => by
    unfold nums at h
    split at h
    · rename_i v r1 h1
      refine nums_64 k _ _ N r (nxO_u8 h1 hu) (fun n hn => ?_) h
      rcases List.mem_append.1 hn with hn | hn
      · exact ha n hn
      · rw [List.mem_singleton.1 hn]; exact nxO_64 hu h1
    · cases h
theorem devs_P : ∀ (n : Nat) (a : List Dv) (b : List Int) (ds : List Dv) (r : List Int), u8s b → (∀ d ∈ a, ∀ n ∈ d.1, i64P n) → devs n a b = some (ds, r) → (∀ d ∈ ds, ∀ n ∈ d.1, i64P n) ∧ (ds.map devSz).sum ≤ (a.map devSz).sum + 10 * b.length
  | 0, a, b, ds, r, hu, ha, h => by
    injection h with h
    injection h with h1 h2
    subst h1
    exact ⟨ha, by omega⟩
  | n + 1, a, b, ds, r, hu, ha, h => by
    unfold devs at h
    split at h
    · cases h
    · rename_i k r1 h1
      split at h
      · cases h
      · split at h
        · cases h
        · rename_i N r2 h2
          split at h
          · cases h
          · rename_i m r3 h3
            split at h
            · cases h
            · rename_i hk hm
              have u1 := nxO_u8 h1 hu
              obtain ⟨i2, u2⟩ := nums_64 _ _ _ _ _ u1 (fun n hn => by cases hn) h2
              have u3 := nxO_u8 h3 u2
              have u4 : u8s (r3.drop m.toNat) := fun x hx => u3 x (List.mem_of_mem_drop hx)
              obtain ⟨p1, p2⟩ := devs_P n _ _ ds r u4 (fun d hd => by
                rcases List.mem_append.1 hd with hd | hd
                · exact ha d hd
                · rw [List.mem_singleton.1 hd]; exact i2) h
              refine ⟨p1, ?_⟩
              have a1 := (nxO_len h1).1
              obtain ⟨a2, a5, _⟩ := nums_len _ _ _ _ _ h2
              have a3 := (nxO_len h3).1
              rw [List.map_append, List.sum_append_nat] at p2
              have e : (List.map devSz [(N, List.take m.toNat r3)]).sum = 10 * N.length + (List.take m.toNat r3).length + 20 := by simp [devSz]
              rw [e, List.length_drop, List.length_take] at p2
              simp at a5
              omega
theorem readF_P {b : List Int} {m : Mach} (hu : u8s b) (hl : b.length ≤ 100000) (h : readF b = some m) : packP m := by
  unfold readF at h
  split at h
  · cases h
  · rename_i hd r hh
    obtain ⟨i1, u1⟩ := nums_64 _ _ _ _ _ hu (fun n hn => by cases hn) hh
    obtain ⟨l1, l2, _⟩ := nums_len _ _ _ _ _ hh
    have l2 : hd.length = 16 := by simpa using l2
    unfold bodyF at h
    split at h
    · cases h
    · rename_i n r1 h1
      split at h
      · cases h
      · unfold fin at h
        split at h
        · cases h
        · rename_i ds r2 h2
          have u2 := nxO_u8 h1 u1
          have a1 := (nxO_len h1).1
          obtain ⟨p1, p2⟩ := devs_P _ _ _ _ _ u2 (fun d hd => by cases hd) h2
          have p2 : (ds.map devSz).sum ≤ 10 * r1.length := by simpa using p2
          split at h
          · cases h
          · split at h
            · injection h with h
              subst h
              have hg : ∀ k, i64P (hd.getD k 0) := fun k => by
                by_cases hk : k < hd.length
                · rw [List.getD_eq_getElem?_getD, List.getElem?_eq_getElem hk]; exact i1 _ (List.getElem_mem hk)
                · rw [List.getD_eq_getElem?_getD, List.getElem?_eq_none (by omega)]; unfold i64P; decide
              have hdl := devs_len ds
              refine ⟨?_, p1, by show ((hd.drop 1).take 9).length = 9; rw [List.length_take, List.length_drop]; omega, by show (ds.map devSz).sum ≤ _; omega⟩
              intro x hx
              have hx : x ∈ [hd.getD 0 0] ++ (hd.drop 1).take 9 ++ [hd.getD 10 0, hd.getD 11 0, cond (decide (hd.getD 12 0 = 1)) 1 0, hd.getD 13 0, hd.getD 14 0, hd.getD 15 0, (ds.length : Int)] := hx
              rcases List.mem_append.1 hx with hx | hx
              · rcases List.mem_append.1 hx with hx | hx
                · rw [List.mem_singleton.1 hx]; exact hg 0
                · exact i1 x (List.mem_of_mem_drop (List.mem_of_mem_take hx))
              · simp only [List.mem_cons, List.not_mem_nil, or_false] at hx
                rcases hx with rfl | rfl | rfl | rfl | rfl | rfl | rfl
                · exact hg 10
                · exact hg 11
                · cases decide (hd.getD 12 0 = 1) <;> (unfold i64P; decide)
                · exact hg 13
                · exact hg 14
                · exact hg 15
                · unfold i64P; omega
            · cases h

end Go.Proofs.Ytanaaecfghmmaaa

/- The chip that reads and writes disks as plain functions: cycles. -/
namespace Go.Proofs.Ytanaaecfghmmaaa
open Go.Fw
set_option linter.unusedVariables false
set_option linter.unusedSimpArgs false

abbrev DS := List Int × List Int
def iterA {α : Type} (f : α → α) : Nat → α → α
  | 0, l => l
  | n + 1, l => iterA f n (f l)
theorem iterA_add {α : Type} (f : α → α) : ∀ (m n : Nat) (l : α), iterA f (m + n) l = iterA f n (iterA f m l)
  | 0, n, l => by rw [Nat.zero_add]; rfl
  | m + 1, n, l => by
    have e : m + 1 + n = (m + n) + 1 := by omega
    rw [e]
    exact iterA_add f m n (f l)
theorem iterA_succ {α : Type} (f : α → α) (n : Nat) (l : α) : iterA f (n + 1) l = f (iterA f n l) := by
  rw [iterA_add f n 1]; rfl
theorem iterA_fix {α : Type} {f : α → α} {l : α} (h : f l = l) : ∀ n, iterA f n l = l
  | 0 => rfl
  | n + 1 => by rw [iterA, h]; exact iterA_fix h n

def atI (k t s i : Int) : Int := 256 * k - 256 + 64 * t + 16 * s + i
def toI (c t : Int) : Int := if c = 1 then (if t + 1 < 4 then t + 1 else t) else (if 0 ≤ t - 1 then t - 1 else t)
def doneF : DS → DS
  | ([k, t, c, s, i, l, d, r, o, x], m) =>
    if c < 3 then ([k, toI c t, 0, s, i, 0, d, r, o, x], m)
    else if i + 1 = 16 then ([k, t, 0, s, 0, 0, if c = 3 then m.getD (atI k t s i).toNat 0 else d, if c = 4 then 0 else 1, if r = 1 then 1 else o, x], if c = 3 then m else m.set (atI k t s i).toNat d)
    else ([k, t, c, s, i + 1, 20, if c = 3 then m.getD (atI k t s i).toNat 0 else d, 1, if r = 1 then 1 else o, x], if c = 3 then m else m.set (atI k t s i).toNat d)
  | s => s
def turnF : DS → DS
  | ([k, t, c, s, i, l, d, r, o, x], m) =>
    if c > 0 then
      (if c > 2 ∧ k = 0 then ([k, t, 0, s, i, l, d, r, o, x], m)
       else if l > 1 then ([k, t, c, s, i, l - 1, d, r, o, x], m)
       else doneF ([k, t, c, s, i, l, d, r, o, x], m))
    else ([k, t, c, s, i, l, d, r, o, x], m)
  | s => s
inductive dOk (q : Nat) : List Int → Prop
  | mk {k t c s i l d r o x : Int} (hk : 0 ≤ k ∧ k ≤ q ∧ k < 256) (ht : 0 ≤ t ∧ t < 4) (hc : 0 ≤ c ∧ c ≤ 4) (hs : 0 ≤ s ∧ s < 4) (hi : 0 ≤ i ∧ i < 16) (hl : 0 ≤ l ∧ l < 64) (hd : 0 ≤ d ∧ d < 256) (hr : 0 ≤ r ∧ r < 2) (ho : 0 ≤ o ∧ o < 2) (hx : 0 ≤ x ∧ x < 2) : dOk q [k, t, c, s, i, l, d, r, o, x]
theorem dOk.len {q : Nat} {l : List Int} (h : dOk q l) : l.length = 10 := by cases h; rfl
theorem dN_ok (N : List Int) (q : Nat) : dOk q (dN N q) := by
  refine ⟨?_, by omega, ?_, by omega, by omega, by omega, by omega, by omega, by omega, by omega⟩
  · split <;> omega
  · split <;> omega
theorem dN_idem {q : Nat} {l : List Int} (h : dOk q l) : dN l q = l := by
  cases h with
  | mk hk ht hc hs hi hl hd hr ho hx =>
    rename_i k t c s i l d r o x
    show [if k % 256 > q then 0 else k % 256, t % 4, if c % 8 > 4 then 0 else c % 8, s % 4, i % 16, l % 64, d % 256, r % 2, o % 2, x % 2] = _
    rw [Int.emod_eq_of_lt hk.1 hk.2.2, Int.emod_eq_of_lt ht.1 ht.2, Int.emod_eq_of_lt (a := c) (b := 8) hc.1 (by omega), Int.emod_eq_of_lt hs.1 hs.2, Int.emod_eq_of_lt hi.1 hi.2, Int.emod_eq_of_lt hl.1 hl.2, Int.emod_eq_of_lt hd.1 hd.2,
      Int.emod_eq_of_lt hr.1 hr.2, Int.emod_eq_of_lt ho.1 ho.2, Int.emod_eq_of_lt hx.1 hx.2, if_neg (by omega), if_neg (by omega)]
structure DOk (q : Nat) (s : DS) : Prop where
  n : dOk q s.1
  m : s.2.length = q * 256
  u : u8s s.2
theorem u8s_set {m : List Int} (h : u8s m) {d : Int} (hd : 0 ≤ d ∧ d < 256) (i : Nat) : u8s (m.set i d) := by
  intro x hx
  rcases List.mem_or_eq_of_mem_set hx with h1 | rfl
  · exact h x h1
  · exact hd
theorem toI_in {c t : Int} (h : 0 ≤ t ∧ t < 4) : 0 ≤ toI c t ∧ toI c t < 4 := by
  unfold toI
  split <;> split <;> omega
theorem doneF_ok {q : Nat} {s : DS} (h : DOk q s) : DOk q (doneF s) := by
  obtain ⟨n, m⟩ := s
  obtain ⟨hn, hm, hu⟩ := h
  have hm : m.length = q * 256 := hm
  have hu : u8s m := hu
  cases hn with
  | mk hk ht hc hs hi hl hd hr ho hx =>
    rename_i k t c s i l d r o x
    have hb := u8s_get hu (atI k t s i).toNat
    have hb : 0 ≤ m.getD (atI k t s i).toNat 0 ∧ m.getD (atI k t s i).toNat 0 < 256 := hb
    have hdd : 0 ≤ (if c = 3 then m.getD (atI k t s i).toNat 0 else d) ∧ (if c = 3 then m.getD (atI k t s i).toNat 0 else d) < 256 := by split <;> assumption
    have hoo : 0 ≤ (if r = 1 then 1 else o) ∧ (if r = 1 then 1 else o) < 2 := by split <;> omega
    have hlen : (if c = 3 then m else m.set (atI k t s i).toNat d).length = q * 256 := by split <;> simp [hm]
    have huu : u8s (if c = 3 then m else m.set (atI k t s i).toNat d) := by
      split
      · exact hu
      · exact u8s_set hu hd _
    rw [doneF]
    by_cases h1 : c < 3
    · rw [if_pos h1]
      exact ⟨⟨hk, toI_in ht, by omega, hs, hi, by omega, hd, hr, ho, hx⟩, hm, hu⟩
    · rw [if_neg h1]
      by_cases h2 : i + 1 = 16
      · rw [if_pos h2]
        exact ⟨⟨hk, ht, by omega, hs, by omega, by omega, hdd, by split <;> omega, hoo, hx⟩, hlen, huu⟩
      · rw [if_neg h2]
        exact ⟨⟨hk, ht, hc, hs, by omega, by omega, hdd, by omega, hoo, hx⟩, hlen, huu⟩
theorem turnF_ok {q : Nat} {s : DS} (h : DOk q s) : DOk q (turnF s) := by
  obtain ⟨n, m⟩ := s
  have h0 := h
  obtain ⟨hn, hm, hu⟩ := h
  have hm : m.length = q * 256 := hm
  have hu : u8s m := hu
  cases hn with
  | mk hk ht hc hs hi hl hd hr ho hx =>
    rename_i k t c s i l d r o x
    rw [turnF]
    by_cases h1 : c > 0
    · rw [if_pos h1]
      by_cases h2 : c > 2 ∧ k = 0
      · rw [if_pos h2]
        exact ⟨⟨hk, ht, by omega, hs, hi, hl, hd, hr, ho, hx⟩, hm, hu⟩
      · rw [if_neg h2]
        by_cases h3 : l > 1
        · rw [if_pos h3]
          exact ⟨⟨hk, ht, hc, hs, hi, by omega, hd, hr, ho, hx⟩, hm, hu⟩
        · rw [if_neg h3]; exact doneF_ok h0
    · rw [if_neg h1]; exact h0
theorem iterT_ok {q : Nat} {s : DS} (h : DOk q s) : ∀ n, DOk q (iterA turnF n s)
  | 0 => h
  | n + 1 => by rw [iterA_succ]; exact turnF_ok (iterT_ok h n)
theorem skip_idle {k t c s i l d r o x : Int} {m : List Int} (hc : ¬ c > 0) (n : Nat) : iterA turnF n ([k, t, c, s, i, l, d, r, o, x], m) = ([k, t, c, s, i, l, d, r, o, x], m) :=
  iterA_fix (by rw [turnF, if_neg hc]) n
theorem skip_none {k t c s i l d r o x : Int} {m : List Int} (hc : c > 2) (hk : k = 0) {n : Nat} (hn : 0 < n) : iterA turnF n ([k, t, c, s, i, l, d, r, o, x], m) = ([k, t, 0, s, i, l, d, r, o, x], m) := by
  obtain ⟨n, rfl⟩ : ∃ n', n = n' + 1 := ⟨n - 1, by omega⟩
  rw [iterA, turnF, if_pos (by omega), if_pos ⟨hc, hk⟩]
  exact skip_idle (by decide) n
theorem skip_wait {k t c s i d r o x : Int} {m : List Int} (hc : c > 0) (hk : ¬ (c > 2 ∧ k = 0)) : ∀ (n : Nat) (l : Int), (n : Int) < l → iterA turnF n ([k, t, c, s, i, l, d, r, o, x], m) = ([k, t, c, s, i, l - n, d, r, o, x], m)
  | 0, l, _ => by rw [iterA]; simp
  | n + 1, l, h => by
    rw [iterA, turnF, if_pos hc, if_neg hk, if_pos (by omega), skip_wait hc hk n (l - 1) (by omega)]
    have : l - 1 - (n : Int) = l - ((n + 1 : Nat) : Int) := by omega
    rw [this]
theorem doneF_left {k t c s i l l' d r o x : Int} {m : List Int} : doneF ([k, t, c, s, i, l, d, r, o, x], m) = doneF ([k, t, c, s, i, l', d, r, o, x], m) := rfl
theorem skip_done {k t c s i l d r o x : Int} {m : List Int} (hc : c > 0) (hk : ¬ (c > 2 ∧ k = 0)) (hl : 0 ≤ l) {n : Nat} (hn : 0 < n) (h : ¬ (n : Int) < l) :
    iterA turnF n ([k, t, c, s, i, l, d, r, o, x], m) = iterA turnF ((n : Int) - max 1 l).toNat (doneF ([k, t, c, s, i, 0, d, r, o, x], m)) := by
  have e : n = (l - 1).toNat + (((n : Int) - max 1 l).toNat + 1) := by omega
  rw [e, iterA_add]
  have e2 : iterA turnF (l - 1).toNat ([k, t, c, s, i, l, d, r, o, x], m) = ([k, t, c, s, i, l - ((l - 1).toNat : Nat), d, r, o, x], m) := by
    by_cases h0 : l = 0
    · subst h0
      show iterA turnF 0 _ = _
      rw [iterA]; simp
    · exact skip_wait hc hk _ _ (by omega)
  have e3 : (((l - 1).toNat + (((n : Int) - max 1 l).toNat + 1) : Nat) : Int) = n := by omega
  rw [e2, e3, iterA, turnF, if_pos hc, if_neg hk, if_neg (by omega)]
  rw [doneF_left (l' := 0)]
def placeDF : List Int → Int
  | [k, t, c, s, i, l, d, r, o, x] => atI k t s i
  | _ => 0
def canDo (s : DS) : Prop := 0 < s.1.getD 2 0 ∧ (2 < s.1.getD 2 0 → 0 < s.1.getD 0 0) ∧ s.1.getD 5 0 = 0
theorem atI_in {k t s i : Int} {q : Nat} (hk : 0 < k ∧ k ≤ q) (ht : 0 ≤ t ∧ t < 4) (hs : 0 ≤ s ∧ s < 4) (hi : 0 ≤ i ∧ i < 16) : 0 ≤ atI k t s i ∧ atI k t s i < ((q * 256 : Nat) : Int) := by
  unfold atI; omega
theorem atI_small {k t s i : Int} (hk : 0 ≤ k ∧ k < 256) (ht : 0 ≤ t ∧ t < 4) (hs : 0 ≤ s ∧ s < 4) (hi : 0 ≤ i ∧ i < 16) : -256 ≤ atI k t s i ∧ atI k t s i < 65536 := by
  unfold atI; omega
theorem doneF_lt {k t c s i l d r o x : Int} {m : List Int} (h : c < 3) : doneF ([k, t, c, s, i, l, d, r, o, x], m) = ([k, toI c t, 0, s, i, 0, d, r, o, x], m) := by rw [doneF, if_pos h]
theorem doneF_16 {k t c s i l d r o x : Int} {m : List Int} (h : ¬ c < 3) (h2 : i + 1 = 16) : doneF ([k, t, c, s, i, l, d, r, o, x], m) =
    ([k, t, 0, s, 0, 0, if c = 3 then m.getD (atI k t s i).toNat 0 else d, if c = 4 then 0 else 1, if r = 1 then 1 else o, x], if c = 3 then m else m.set (atI k t s i).toNat d) := by rw [doneF, if_neg h, if_pos h2]
theorem doneF_go {k t c s i l d r o x : Int} {m : List Int} (h : ¬ c < 3) (h2 : ¬ i + 1 = 16) : doneF ([k, t, c, s, i, l, d, r, o, x], m) =
    ([k, t, c, s, i + 1, 20, if c = 3 then m.getD (atI k t s i).toNat 0 else d, 1, if r = 1 then 1 else o, x], if c = 3 then m else m.set (atI k t s i).toNat d) := by rw [doneF, if_neg h, if_neg h2]
theorem l10 {a b c d e f g h i j a' b' c' d' e' f' g' h' i' j' : Int} (h1 : a = a') (h2 : b = b') (h3 : c = c') (h4 : d = d') (h5 : e = e') (h6 : f = f') (h7 : g = g') (h8 : h = h') (h9 : i = i') (h10 : j = j') : [a, b, c, d, e, f, g, h, i, j] = [a', b', c', d', e', f', g', h', i', j'] := by rw [h1, h2, h3, h4, h5, h6, h7, h8, h9, h10]
theorem turn_none {k t c s i l d r o x : Int} {m : List Int} (hc : c > 2) (hk : k = 0) : turnF ([k, t, c, s, i, l, d, r, o, x], m) = ([k, t, 0, s, i, l, d, r, o, x], m) := by rw [turnF, if_pos (by omega), if_pos ⟨hc, hk⟩]
theorem turn_wait {k t c s i l d r o x : Int} {m : List Int} (hc : c > 0) (hk : ¬ (c > 2 ∧ k = 0)) (hl : l > 1) : turnF ([k, t, c, s, i, l, d, r, o, x], m) = ([k, t, c, s, i, l - 1, d, r, o, x], m) := by rw [turnF, if_pos hc, if_neg hk, if_pos hl]
theorem turn_done {k t c s i l d r o x : Int} {m : List Int} (hc : c > 0) (hk : ¬ (c > 2 ∧ k = 0)) (hl : ¬ l > 1) : turnF ([k, t, c, s, i, l, d, r, o, x], m) = doneF ([k, t, c, s, i, l, d, r, o, x], m) := by rw [turnF, if_pos hc, if_neg hk, if_neg hl]
theorem at_turn {k t s i : Int} (hk : 0 ≤ k ∧ k < 256) (ht : 0 ≤ t ∧ t < 4) (hs : 0 ≤ s ∧ s < 4) (hi : 0 ≤ i ∧ i < 16) :
    IntKind.i64.wrap (IntKind.i64.wrap (IntKind.i64.wrap (IntKind.i64.wrap (IntKind.i64.wrap (256 * k) - 256) + IntKind.i64.wrap (64 * t)) + IntKind.i64.wrap (16 * s)) + i) = atI k t s i := by
  rw [w64 (x := 256 * k) (by omega) (by omega), w64 (x := 256 * k - 256) (by omega) (by omega), w64 (x := 64 * t) (by omega) (by omega), w64 (x := 256 * k - 256 + 64 * t) (by omega) (by omega), w64 (x := 16 * s) (by omega) (by omega),
    w64 (x := 256 * k - 256 + 64 * t + 16 * s) (by omega) (by omega), w64 (by omega) (by omega)]; rfl
theorem set_at {m : List Int} {a b : Int} {x y : Int} (h : a = b) (h2 : x = y) : m.set a.toNat x = m.set b.toNat y := by rw [h, h2]
theorem get_at {m : List Int} {a b : Int} (h : a = b) : m.getD a.toNat 0 = m.getD b.toNat 0 := by rw [h]
theorem or1 {o r : Int} (ho : 0 ≤ o ∧ o < 2) (hr : 0 ≤ r ∧ r < 2) : lor .i64 o r = if r = 1 then 1 else o := by
  have a1 : o = 0 ∨ o = 1 := by omega
  have a2 : r = 0 ∨ r = 1 := by omega
  rcases a1 with rfl | rfl <;> rcases a2 with rfl | rfl <;> decide +kernel

end Go.Proofs.Ytanaaecfghmmaaa

/- The chip that reads and writes disks: what is done when its time has come. -/
namespace Go.Proofs.Ytanaaecfghmmaaa
open Go.Fw
set_option linter.unusedVariables false
set_option linter.unusedSimpArgs false
set_option maxRecDepth 100000

theorem wrap8b {x : Int} (h : 0 ≤ x ∧ x < 256) : IntKind.u8.wrap x = x := by
  show x % 256 = x
  omega
theorem blk_d {l l' m m' : List Int} (h : l = l') (h2 : m = m') : [some (Blk.arr (.int .i64) l), some (Blk.arr (.int .u8) m)] = [some (Blk.arr (.int .i64) l'), some (Blk.arr (.int .u8) m')] := by rw [h, h2]
def placeDS : PSpec := ⟨[gl], fun (l, _) => (some (∃ q, dOk q l), I (placeDF l), [])⟩
def ownsD : List V1 → List Blk → Option DS := fun a b => (match a, b with | [.c (.own 0), .c (.own 1)], [.arr (.int .i64) l, .arr (.int .u8) m] => some (l, m) | _, _ => none)
theorem ownsD_ok {a : List V1} {b : List Blk} {x : DS} (h : ownsD a b = some x) : a = [.c (.own 0), .c (.own 1)] ∧ b = [.arr (.int .i64) x.1, .arr (.int .u8) x.2] := by
  unfold ownsD at h
  split at h
  · injection h with h; subst h; exact ⟨rfl, rfl⟩
  · cases h
theorem atI_w {k t s i : Int} (h : -256 ≤ atI k t s i ∧ atI k t s i < 65536) : IntKind.i64.wrap (atI k t s i) = atI k t s i := w64 (by omega) (by omega)
theorem pl_eq (k t c s i l d r o x : Int) : placeDF [k, t, c, s, i, l, d, r, o, x] = atI k t s i := rfl
theorem toI_drive {c t : Int} (ht : 0 ≤ t ∧ t < 4) (hc : c = 1 ∨ c = 2) : imax 0 (imin (IntKind.i64.wrap (IntKind.i64.wrap (t + 3) - IntKind.i64.wrap (2 * c))) 3) = toI c t := by
  rw [w64 (x := t + 3) (by omega) (by omega), w64 (x := 2 * c) (by omega) (by omega), w64 (by omega) (by omega)]
  unfold toI imax imin
  (repeat' split) <;> omega
def doneS : WSpec := ⟨DS, fun _ => [.c (.own 0), .c (.own 1)], fun s => [.arr (.int .i64) s.1, .arr (.int .u8) s.2], ownsD,
  fun s => (some ((∃ q, DOk q s) ∧ canDo s), .tup [], [some (.arr (.int .i64) (doneF s).1), some (.arr (.int .u8) (doneF s).2)], [])⟩
def turnsS : WSpec := ⟨DS, fun _ => [.c (.own 0), .c (.own 1)], fun s => [.arr (.int .i64) s.1, .arr (.int .u8) s.2], ownsD,
  fun s => (some ((∃ q, DOk q s) ∧ 0 < s.1.getD 2 0), .tup [], [some (.arr (.int .i64) (turnF s).1), some (.arr (.int .u8) (turnF s).2)], [])⟩
theorem toI_ref {c t : Int} (ht : 0 ≤ t ∧ t < 4) (hc : c = 1 ∨ c = 2) : IntKind.i64.wrap (t + [1, -1].getD (c - 1).toNat (dflt (.int .i64))) = if c = 1 then t + 1 else t - 1 := by
  rcases hc with rfl | rfl
  · show IntKind.i64.wrap (t + 1) = _
    rw [w64 (by omega) (by omega)]; rfl
  · show IntKind.i64.wrap (t + -1) = _
    rw [w64 (by omega) (by omega)]; rfl
end Go.Proofs.Ytanaaecfghmmaaa

/- The chip that reads and writes disks: cycles, both ways. -/
namespace Go.Proofs.Ytanaaecfghmmaaa
open Go.Fw
set_option linter.unusedVariables false
set_option linter.unusedSimpArgs false
set_option maxRecDepth 100000

theorem turn0_m {l : List Int} (h : dOk 0 l) : (turnF (l, [])).2 = [] := by
  cases h with
  | mk hk ht hc hs hi hl hd hr ho hx =>
  rename_i k t c s i l d r o x
  rw [turnF]
  by_cases h1 : c > 0
  · rw [if_pos h1]
    by_cases h2 : c > 2 ∧ k = 0
    · rw [if_pos h2]
    · rw [if_neg h2]
      by_cases h3 : l > 1
      · rw [if_pos h3]
      · rw [if_neg h3, doneF_lt (by omega)]
  · rw [if_neg h1]
def ownsR : List V1 → List Blk → Option (List Int) := fun a b => (match a, b with | [.c (.own 0), .c (.ro (.int .u8) [])], [.arr (.int .i64) l] => some l | _, _ => none)
theorem ownsR_ok {a : List V1} {b : List Blk} {x : List Int} (h : ownsR a b = some x) : a = [.c (.own 0), .c (.ro (.int .u8) [])] ∧ b = [.arr (.int .i64) x] := by
  unfold ownsR at h
  split at h
  · injection h with h; subst h; exact ⟨rfl, rfl⟩
  · cases h
def turns0S : WSpec := ⟨List Int, fun _ => [.c (.own 0), .c (.ro (.int .u8) [])], fun s => [.arr (.int .i64) s], ownsR,
  fun s => (some (dOk 0 s ∧ 0 < s.getD 2 0), .tup [], [some (.arr (.int .i64) (turnF (s, [])).1)], [])⟩
theorem dOkN (N : List Int) (q : Nat) : dOk q (dN N q) := dN_ok N q
theorem u8s_take {M : List Int} (h : u8s M) (n : Nat) : u8s (M.take n) := fun x hx => h x (List.mem_of_mem_take hx)
theorem dM_u8 {M : List Int} (h : u8s M) : u8s (dM M) := u8s_take h _
theorem DOkN (N : List Int) {M : List Int} (h : u8s M) : DOk (qF M) (dN N (qF M), dM M) := ⟨dN_ok N _, dM_len M, dM_u8 h⟩
theorem turn_zero {l m : List Int} (h : l.length = 10) (hc : ¬ l.getD 2 0 > 0) : turnF (l, m) = (l, m) := by
  match l, h with
  | [k, t, c, s, i, l, d, r, o, x], _ =>
    rw [turnF]
    exact if_neg hc
def dtickedR0S : PSpec := ⟨[gC, gD], fun (c, d, _) => (some (c.2.1 = 8 ∧ List.length d.2 ≤ 140737488355328 ∧ qF d.2 = 0), .agg [.own 0, .ro (.int .u8) []], [.arr (.int .i64) (turnF (dN d.1 (qF d.2), [])).1])⟩
def dtickedR1S : PSpec := ⟨[gC, gD], fun (c, d, _) => (some (c.2.1 = 8 ∧ List.length d.2 ≤ 140737488355328 ∧ 0 < qF d.2 ∧ u8s d.2), .agg [.own 0, .ro (.int .u8) (turnF (dN d.1 (qF d.2), dM d.2)).2], [.arr (.int .i64) (turnF (dN d.1 (qF d.2), dM d.2)).1])⟩
def dtickedS : PSpec := ⟨[gC, gD], fun (c, d, _) => (some (c.2.1 = 8 ∧ List.length d.2 ≤ 140737488355328 ∧ u8s d.2), .agg [.own 0, .ro (.int .u8) (turnF (dN d.1 (qF d.2), dM d.2)).2], [.arr (.int .i64) (turnF (dN d.1 (qF d.2), dM d.2)).1])⟩
def skipD (k : Int) (s : DS) : DS := iterA turnF k.toNat s
def dskipS : PSpec := ⟨[gD, gi], fun (d, k, _) => (some (List.length d.2 ≤ 140737488355328 ∧ u8s d.2 ∧ k ≤ 1500), .agg [.own 0, .own 1], [.arr (.int .i64) (skipD k (dN d.1 (qF d.2), dM d.2)).1, .arr (.int .u8) (skipD k (dN d.1 (qF d.2), dM d.2)).2])⟩
def dtickS : PSpec := ⟨[gD], fun (d, _) => (some (List.length d.2 ≤ 140737488355328 ∧ u8s d.2), .agg [.own 0, .own 1], [.arr (.int .i64) (turnF (dN d.1 (qF d.2), dM d.2)).1, .arr (.int .u8) (turnF (dN d.1 (qF d.2), dM d.2)).2])⟩
end Go.Proofs.Ytanaaecfghmmaaa

/- bakeref1.Shade. -/
namespace Go.Proofs.Ytanaaecfghmmaaa
open Go.Fw
set_option linter.unusedVariables false
set_option linter.unusedSimpArgs false
set_option maxRecDepth 100000

theorem tup_ib2 {a c : Int} {b d : Bool} (h1 : a = c) (h2 : b = d) : AV.tup [I1 a, .c (bv b)] = AV.tup [I1 c, .c (bv d)] := by rw [h1, h2]
def shadeS : PSpec := ⟨[gb, gi], fun (m, pos, _) => (some (List.length m = 32 ∧ u8s m ∧ 0 ≤ pos ∧ pos < 2560), .tup [I1 (colorF m pos), .c (bv (hitB m pos))], [])⟩
end Go.Proofs.Ytanaaecfghmmaaa

/- The chip that draws: the functions of package video that look at a picture. -/
namespace Go.Proofs.Ytanaaecfghmmaaa
open Go.Fw
set_option linter.unusedVariables false
set_option linter.unusedSimpArgs false
set_option maxRecDepth 100000

def visS : PSpec := ⟨[gi], fun (pos, _) => (some (0 ≤ pos ∧ pos < 2560), .cell (bv (visB pos)), [])⟩
def cellS : PSpec := ⟨[gb, gi], fun (m, pos, _) => (some (List.length m = 32 ∧ u8s m ∧ 0 ≤ pos ∧ pos < 2560 ∧ visB pos = true), I (cellF m pos), [])⟩
def spriteS : PSpec := ⟨[gb, gi], fun (m, pos, _) => (some (List.length m = 32 ∧ u8s m ∧ 0 ≤ pos ∧ pos < 2560), .cell (bv (spriteB m pos)), [])⟩
theorem not_vis {b : Bool} (h : (!b) = false) : b = true := by cases b; cases h; rfl
theorem not_vis2 {b : Bool} (h : (!b) = true) : b = false := by cases b; rfl; cases h
def colorS : PSpec := ⟨[gb, gi], fun (m, pos, _) => (some (List.length m = 32 ∧ u8s m ∧ 0 ≤ pos ∧ pos < 2560), I (colorF m pos), [])⟩
def hitsS : PSpec := ⟨[gb, gi], fun (m, pos, _) => (some (List.length m = 32 ∧ u8s m ∧ 0 ≤ pos ∧ pos < 2560), .cell (bv (hitB m pos)), [])⟩
end Go.Proofs.Ytanaaecfghmmaaa

/- The chip that draws: its state, cycles, registers. -/
namespace Go.Proofs.Ytanaaecfghmmaaa
open Go.Fw
set_option linter.unusedVariables false
set_option linter.unusedSimpArgs false
set_option maxRecDepth 100000

abbrev devM : AV := .agg [.own 0, .own 1]
theorem tup_v {a b c d : Int} (h1 : a = c) (h2 : b = d) : AV.tup [I1 a, I1 b, .c (.own 0)] = AV.tup [I1 c, I1 d, .c (.own 0)] := by rw [h1, h2]
theorem blk_v {l l' m m' : List Int} (h : l = l') (h2 : m = m') : [some (Blk.arr (.int .i64) l), some (Blk.arr (.int .u8) m)] = [some (Blk.arr (.int .i64) l'), some (Blk.arr (.int .u8) m')] := by rw [h, h2]
theorem wrap8 {x : Int} (h0 : 0 ≤ x) (h1 : x < 256) : IntKind.u8.wrap x = x := by
  show x % 256 = x
  omega
theorem tup_rv {x y : Int} (h2 : x = y) : AV.tup [.agg [.own 0, .own 1], I1 x] = AV.tup [.agg [.own 0, .own 1], I1 y] := by rw [h2]
def vfitS : PSpec := ⟨[gD], fun (d, _) => (none, .tup [I1 (vP d.1), I1 (vH d.1), .c (.own 0)], [.arr (.int .u8) (vM d.2)])⟩
def vmadeS : WSpec := ⟨Int × Int × List Int, fun x => [.c (iv .i64 x.1), .c (iv .i64 x.2.1), .c (.own 0)], fun x => [.arr (.int .u8) x.2.2],
  fun a b => (match a, b with | [.c (.imm (.int .i64 p)), .c (.imm (.int .i64 h)), .c (.own 0)], [.arr (.int .u8) m] => some (p, h, m) | _, _ => none),
  fun x => (none, .agg [.own 1, .own 0], [some (.arr (.int .u8) x.2.2)], [.arr (.int .i64) [x.1, x.2.1]])⟩
def vnewS : PSpec := ⟨[], fun _ => (none, devM, [.arr (.int .i64) [2559, 0], .arr (.int .u8) (List.replicate 32 0)])⟩
def vskipS : PSpec := ⟨[gD, gi], fun (d, k, _) => (some (u8s d.2 ∧ k ≤ 4611686018427387904), devM, [.arr (.int .i64) (iterF (tickV (vM d.2)) k.toNat [vP d.1, vH d.1]), .arr (.int .u8) (vM d.2)])⟩
def vtickS : PSpec := ⟨[gD], fun (d, _) => (some (u8s d.2), devM, [.arr (.int .i64) (tickV (vM d.2) [vP d.1, vH d.1]), .arr (.int .u8) (vM d.2)])⟩
def voutS : PSpec := ⟨[gD], fun (d, _) => (some (u8s d.2), I (colorF (vM d.2) (vP d.1)), [])⟩
def vwM (m : List Int) (a k : Int) : List Int := if (0 ≤ a ∧ a < 32) ∧ (a < 5 ∨ a > 7) then m.set a.toNat (k % 256) else m
def vwriteS : PSpec := ⟨[gD, gi, gi], fun (d, a, k, _) => (none, devM, [.arr (.int .i64) [vP d.1, vH d.1], .arr (.int .u8) (vwM (vM d.2) a k)])⟩
def vrF (N m : List Int) (a : Int) : Int := if a = 5 then vP N / 64 else if a = 6 then vP N % 64 else if a = 7 then vH N else if 0 ≤ a ∧ a < 32 then bA m a.toNat else 0
def vrN (N : List Int) (a : Int) : List Int := [vP N, if a = 7 then 0 else vH N]
def vreadS : PSpec := ⟨[gD, gi], fun (d, a, _) => (some (u8s d.2), .tup [.agg [.own 0, .own 1], I1 (vrF d.1 (vM d.2) a)], [.arr (.int .i64) (vrN d.1 a), .arr (.int .u8) (vM d.2)])⟩
def diffV (m : List Int) (p k : Int) : Bool := decide (colorF m ((p + k) % 2560) ≠ colorF m p)
def restD (m : List Int) (p : Int) : Nat → Int
  | 0 => 100000
  | n + 1 => if diffV m p (2560 - n) = true then 2560 - n - 1 else restD m p n
def vnextF (m : List Int) (p : Int) : Int := restD m p 2560
theorem restD_go (m : List Int) (p : Int) {n : Nat} (h : diffV m p (2560 - n) = false) : restD m p (n + 1) = restD m p n := by
  rw [restD, h]; rfl
theorem restD_is (m : List Int) (p : Int) {n : Nat} (h : diffV m p (2560 - n) = true) : restD m p (n + 1) = 2560 - n - 1 := by
  rw [restD, h]; rfl
def vnextS : PSpec := ⟨[gD], fun (d, _) => (some (u8s d.2), I (vnextF (vM d.2) (vP d.1)), [])⟩
def videosS : PSpec := ⟨[], fun _ => (none, .cell (bv true), [])⟩
end Go.Proofs.Ytanaaecfghmmaaa

/- The memories: windows, banks, how many bytes there are; their states in form. -/
namespace Go.Proofs.Ytanaaecfghmmaaa
open Go.Fw
set_option linter.unusedVariables false
set_option linter.unusedSimpArgs false
set_option linter.constructorNameAsVariable false
set_option maxRecDepth 100000

def i64 (x : Int) : Prop := -9223372036854775808 ≤ x ∧ x ≤ 9223372036854775807
def cP (c : Cv) : Prop := i64 c.2.2.1 ∧ i64 c.2.2.2.1 ∧ List.length c.2.2.2.2 ≤ 140737488351232
def dP (d : Dv) : Prop := List.length d.2 ≤ 140737488355328 ∧ u8s d.2
def winI (c : Cv) : Int := max 1 (min (max c.2.2.2.1 1) 4097 - 1)
theorem winI_in (c : Cv) : 1 ≤ winI c ∧ winI c ≤ 4096 := by unfold winI; omega
def bankI (c : Cv) : Int := max 1 (((List.length c.2.2.2.2 : Nat) + winI c - 1) / winI c)
theorem bankI_in {c : Cv} (h : List.length c.2.2.2.2 ≤ 140737488351232) : 1 ≤ bankI c ∧ bankI c ≤ 140737488355328 ∧ bankI c * winI c ≤ 140737488355328 := by
  obtain ⟨h1, h2⟩ := winI_in c
  have h3 : ((List.length c.2.2.2.2 : Nat) + winI c - 1) / winI c * winI c ≤ (List.length c.2.2.2.2 : Nat) + winI c - 1 := Int.ediv_mul_le _ (by omega)
  have h4 : ((List.length c.2.2.2.2 : Nat) + winI c - 1) / winI c ≤ (List.length c.2.2.2.2 : Nat) + winI c - 1 := Int.ediv_le_self _ (by omega)
  unfold bankI
  rcases Int.le_total 1 (((List.length c.2.2.2.2 : Nat) + winI c - 1) / winI c) with h | h
  · rw [Int.max_eq_right h]
    omega
  · rw [Int.max_eq_left h]
    omega
def bytesI (c : Cv) : Int := if c.2.1 = 2 then bankI c * winI c else max 0 (min c.2.2.2.1 65536)
theorem bytesI_in {c : Cv} (h : List.length c.2.2.2.2 ≤ 140737488351232) : 0 ≤ bytesI c ∧ bytesI c ≤ 140737488355328 := by
  obtain ⟨h1, h2, h3⟩ := bankI_in h
  obtain ⟨h4, h5⟩ := winI_in c
  have h6 : 0 ≤ bankI c * winI c := Int.mul_nonneg (by omega) (by omega)
  unfold bytesI
  split
  · omega
  · omega
def memM (c : Cv) (M : List Int) : List Int := over (List.replicate (bytesI c).toNat 0) M 0
def memN (c : Cv) (N : List Int) : List Int := if c.2.1 = 2 then [N.getD 0 0 % bankI c] else []
theorem memM_len (c : Cv) (M : List Int) : (memM c M).length = (bytesI c).toNat := by
  unfold memM; rw [over_length, List.length_replicate]

def windowS : PSpec := ⟨[gC], fun (c, _) => (none, I (winI c), [])⟩
def cBanksS : PSpec := ⟨[gC], fun (c, _) => (some (List.length c.2.2.2.2 ≤ 140737488351232), I (bankI c), [])⟩
def cBytesS : PSpec := ⟨[gC], fun (c, _) => (some (List.length c.2.2.2.2 ≤ 140737488351232), I (bytesI c), [])⟩
theorem limitF_eq (n a b : Int) (h : a ≤ b) : limitF n a b = max a (min n b) := by
  unfold limitF; (repeat' split) <;> omega

/-- how many rounds bring a number to zero or below -/
theorem banks_end {l k w : Int} (hw : 1 ≤ w) (hk : 0 ≤ k) (hl : 0 ≤ l) (h1 : l - k * w ≤ 0) (h2 : k = 0 ∨ 0 < l - (k - 1) * w) : max 1 (min k 1152921504606846976) = max 1 (min ((l + w - 1) / w) 1152921504606846976) := by
  rcases h2 with rfl | h2
  · have : l = 0 := by omega
    subst this
    have : (0 + w - 1) / w = 0 := Int.ediv_eq_zero_of_lt (by omega) (by omega)
    rw [this]
  · have e : (l + w - 1) / w = k := by
      rw [Int.sub_mul] at h2
      have : l + w - 1 = (l + w - 1 - k * w) + k * w := by omega
      rw [this, Int.add_mul_ediv_right _ _ (by omega), Int.ediv_eq_zero_of_lt (by omega) (by omega)]
      omega
    rw [e]
def bankedS : PSpec := ⟨[gC], fun (c, _) => (some (cP c), .tup [I1 (bankI c), I1 (winI c)], [])⟩
theorem copy_eq (n : Int) (M : List Int) (h : IntKind.i64.wrap n = n) : over (List.replicate (IntKind.i64.wrap n).toNat 0) M 0 = over (List.replicate n.toNat 0) M 0 := by rw [h]
/-- the state of a memory -/
def cfitS : PSpec := ⟨[gC, gD], fun (c, d, _) => (some (cP c), devM, [.arr (.int .i64) (memN c d.1), .arr (.int .u8) (memM c d.2)])⟩
/-- the reference's state of a memory: it may be without bytes -/
def mformedS : PSpec := ⟨[gC, gD], fun (c, d, _) => (some (cP c ∧ (c.2.1 = 0 ∨ c.2.1 = 1 ∨ c.2.1 = 2)), devM, [.arr (.int .i64) (memN c d.1), .arr (.int .u8) (memM c d.2)])⟩
/-- no kind at all -/
def xformedS : PSpec := ⟨[gC, gD], fun (c, d, _) => (some (c.2.1 < 0 ∨ 8 < c.2.1), devM, [.arr (.int .i64) [], .arr (.int .u8) []])⟩
end Go.Proofs.Ytanaaecfghmmaaa

/- The chip that reads and writes disks, for the reference: results in blocks of their own. -/
namespace Go.Proofs.Ytanaaecfghmmaaa
open Go.Fw
set_option linter.unusedVariables false
set_option linter.unusedSimpArgs false
set_option linter.constructorNameAsVariable false
set_option maxRecDepth 100000

def dformedOS : PSpec := ⟨[gC, gD], fun (c, d, _) => (some (c.2.1 = 8 ∧ List.length d.2 ≤ 140737488355328), .agg [.own 0, .own 1], [.arr (.int .i64) (dN d.1 (qF d.2)), .arr (.int .u8) (dM d.2)])⟩
def dloadedOS : PSpec := ⟨[gC, gD, gi], fun (c, d, a, _) => (some (c.2.1 = 8 ∧ List.length d.2 ≤ 140737488355328), .tup [.agg [.own 0, .own 1], I1 (drF d.1 (qF d.2) a)], [.arr (.int .i64) (drN d.1 (qF d.2) a), .arr (.int .u8) (dM d.2)])⟩
def dstoredOS : PSpec := ⟨[gC, gD, gi, gi], fun (c, d, a, k, _) => (some (c.2.1 = 8 ∧ List.length d.2 ≤ 140737488355328), .agg [.own 0, .own 1], [.arr (.int .i64) (dwN d.1 (qF d.2) a k), .arr (.int .u8) (dM d.2)])⟩
def dgivenOS : PSpec := ⟨[gC, gD, gi], fun (c, d, k, _) => (some (c.2.1 = 8 ∧ List.length d.2 ≤ 140737488355328), .agg [.own 0, .own 1], [.arr (.int .i64) (dcN d.1 (qF d.2) k), .arr (.int .u8) (dM d.2)])⟩
def dtickedOS : PSpec := ⟨[gC, gD], fun (c, d, _) => (some (c.2.1 = 8 ∧ List.length d.2 ≤ 140737488355328 ∧ u8s d.2), .agg [.own 0, .own 1], [.arr (.int .i64) (turnF (dN d.1 (qF d.2), dM d.2)).1, .arr (.int .u8) (turnF (dN d.1 (qF d.2), dM d.2)).2])⟩
end Go.Proofs.Ytanaaecfghmmaaa

/- The chip that draws, by the document. -/
namespace Go.Proofs.Ytanaaecfghmmaaa
open Go.Fw
set_option linter.unusedVariables false
set_option linter.unusedSimpArgs false
set_option maxRecDepth 100000

def vidC : Cv := (ByteArray.empty, 6, 0, 0, [])
theorem vmods_ok : ([2560, 2] : List Int).length ≤ 1000 ∧ ∀ m ∈ ([2560, 2] : List Int), 0 < m ∧ m ≤ 4611686018427387904 := by decide
def vformedS : PSpec := ⟨[gC, gD], fun (c, d, _) => (some (c.2.1 = 6), devM, [.arr (.int .i64) (vN d.1), .arr (.int .u8) (vM d.2)])⟩
def vfreshS : PSpec := ⟨[gC], fun (c, _) => (some (c.2.1 = 6), devM, [.arr (.int .i64) [2559, 0], .arr (.int .u8) (List.replicate 32 0)])⟩
def vloadedS : PSpec := ⟨[gC, gD, gi], fun (c, d, a, _) => (some (c.2.1 = 6 ∧ u8s d.2), .tup [.agg [.own 0, .own 1], I1 (vrF d.1 (vM d.2) a)], [.arr (.int .i64) (vrN d.1 a), .arr (.int .u8) (vM d.2)])⟩
def vstoredS : PSpec := ⟨[gC, gD, gi, gi], fun (c, d, a, k, _) => (some (c.2.1 = 6), devM, [.arr (.int .i64) [vP d.1, vH d.1], .arr (.int .u8) (vwM (vM d.2) a k)])⟩
def vtickedS : PSpec := ⟨[gC, gD], fun (c, d, _) => (some (c.2.1 = 6 ∧ u8s d.2), devM, [.arr (.int .i64) (tickV (vM d.2) (vN d.1)), .arr (.int .u8) (vM d.2)])⟩
def vshowsS : PSpec := ⟨[gC, gD], fun (c, d, _) => (some (c.2.1 = 6 ∧ u8s d.2), I (colorF (vM d.2) (vP d.1)), [])⟩
def vrestsS : PSpec := ⟨[gC, gD], fun (c, d, _) => (some (c.2.1 = 6 ∧ u8s d.2), I (vnextF (vM d.2) (vP d.1)), [])⟩
end Go.Proofs.Ytanaaecfghmmaaa

/- All kinds of chips at once: what each chip's functions give, in blocks of their own. -/
namespace Go.Proofs.Ytanaaecfghmmaaa
open Go.Fw
set_option linter.unusedVariables false
set_option linter.unusedSimpArgs false
set_option linter.constructorNameAsVariable false
set_option maxRecDepth 100000

abbrev devM1 : V1 := .agg [.own 0, .own 1]
def tnewOS : PSpec := ⟨[], fun _ => (none, devM, [.arr (.int .i64) [0, 0, 0, 0], .arr (.int .u8) []])⟩
def tskipOS : PSpec := ⟨[gD, gi], fun (d, k, _) => (some (k ≤ 4611686018427387904), devM, [.arr (.int .i64) (iterT k.toNat (timN d.1)), .arr (.int .u8) []])⟩
def twriteOS : PSpec := ⟨[gD, gi, gi], fun (d, a, k, _) => (none, devM, [.arr (.int .i64) (twN d.1 a k), .arr (.int .u8) []])⟩
def treadOS : PSpec := ⟨[gD, gi], fun (d, a, _) => (none, .tup [devM1, I1 (trF d.1 a)], [.arr (.int .i64) (trN d.1 a), .arr (.int .u8) []])⟩
def pnewOS : PSpec := ⟨[], fun _ => (none, devM, [.arr (.int .i64) [255, 0, 0], .arr (.int .u8) []])⟩
def pinOS : PSpec := ⟨[gD, gi], fun (d, k, _) => (none, devM, [.arr (.int .i64) (pinN d.1 k), .arr (.int .u8) []])⟩
def pwriteOS : PSpec := ⟨[gD, gi, gi], fun (d, a, k, _) => (none, devM, [.arr (.int .i64) (pwN d.1 a k), .arr (.int .u8) []])⟩
def preadOS : PSpec := ⟨[gD, gi], fun (d, a, _) => (none, .tup [devM1, I1 (preadF d.1 a)], [.arr (.int .i64) (portN d.1), .arr (.int .u8) []])⟩
def snewOS : PSpec := ⟨[], fun _ => (none, devM, [.arr (.int .i64) [0, 0, 0, 0, 0, 0, 0, 0], .arr (.int .u8) []])⟩
def sskipOS : PSpec := ⟨[gD, gi], fun (d, k, _) => (some (k ≤ 4611686018427387904), devM, [.arr (.int .i64) (iterF tickS k.toNat (serN d.1)), .arr (.int .u8) []])⟩
def sinOS : PSpec := ⟨[gD, gi], fun (d, k, _) => (none, devM, [.arr (.int .i64) (sinN d.1 k), .arr (.int .u8) []])⟩
def swriteOS : PSpec := ⟨[gD, gi, gi], fun (d, a, k, _) => (none, devM, [.arr (.int .i64) (swN d.1 a k), .arr (.int .u8) []])⟩
def sreadOS : PSpec := ⟨[gD, gi], fun (d, a, _) => (none, .tup [devM1, I1 (srF d.1 a)], [.arr (.int .i64) (srN d.1 a), .arr (.int .u8) []])⟩
def onewOS : PSpec := ⟨[], fun _ => (none, devM, [.arr (.int .i64) (List.replicate 12 0), .arr (.int .u8) []])⟩
def oskipOS : PSpec := ⟨[gD, gi], fun (d, k, _) => (some (k ≤ 10000000), devM, [.arr (.int .i64) (iterF tickW k.toNat (sndN d.1)), .arr (.int .u8) []])⟩
def owriteOS : PSpec := ⟨[gD, gi, gi], fun (d, a, k, _) => (none, devM, [.arr (.int .i64) (owF d.1 a k), .arr (.int .u8) []])⟩
def oreadOS : PSpec := ⟨[gD, gi], fun (d, a, _) => (none, .tup [devM1, I1 (orF d.1 a)], [.arr (.int .i64) (sndN d.1), .arr (.int .u8) []])⟩
theorem kinds (k : Int) : k = 0 ∨ k = 1 ∨ k = 2 ∨ k = 3 ∨ k = 4 ∨ k = 5 ∨ k = 6 ∨ k = 7 ∨ k = 8 ∨ (k < 0 ∨ 8 < k) := by omega
def sel {α : Type} (k : Int) (m t p s v o r x : α) : α := if 0 ≤ k ∧ k ≤ 2 then m else if k = 3 then t else if k = 4 then p else if k = 5 then s else if k = 6 then v else if k = 7 then o else if k = 8 then r else x
theorem sel_x {α : Type} {k : Int} (h : k < 0 ∨ 8 < k) (m t p s v o r x : α) : sel k m t p s v o r x = x := by
  unfold sel
  rw [if_neg (by omega), if_neg (by omega), if_neg (by omega), if_neg (by omega), if_neg (by omega), if_neg (by omega), if_neg (by omega)]

theorem kx3 {k : Int} (h : k < 0 ∨ 8 < k) : k < 3 ∨ k = 4 ∨ 8 < k := by omega
theorem k3 {k : Int} (h : k < 3 ∨ k = 4 ∨ 8 < k) : k < 3 ∨ k = 4 ∨ 8 < k := h

-- what a state is in its form, a cycle later, ..

def formF (c : Cv) (d : Dv) : Dv := sel c.2.1 (memN c d.1, memM c d.2) (timN d.1, []) (portN d.1, []) (serN d.1, []) (vN d.1, vM d.2) (sndN d.1, []) (dN d.1 (qF d.2), dM d.2) ([], [])
def tickF (c : Cv) (d : Dv) : Dv := sel c.2.1 (memN c d.1, memM c d.2) (tickT (timN d.1), []) (portN d.1, []) (tickS (serN d.1), []) (tickV (vM d.2) (vN d.1), vM d.2) (tickW (sndN d.1), []) (turnF (dN d.1 (qF d.2), dM d.2)) ([], [])

def kFormedS : PSpec := ⟨[gC, gD], fun (c, d, _) => (some (cP c ∧ List.length d.2 ≤ 140737488355328), devM, [.arr (.int .i64) (formF c d).1, .arr (.int .u8) (formF c d).2])⟩
def kTickedS : PSpec := ⟨[gC, gD], fun (c, d, _) => (some (cP c ∧ dP d), devM, [.arr (.int .i64) (tickF c d).1, .arr (.int .u8) (tickF c d).2])⟩
/-- the kinds that nothing happens to -/
def kTicked0S : PSpec := ⟨[gC, gD], fun (c, d, _) => (some (cP c ∧ dP d ∧ (c.2.1 < 3 ∨ c.2.1 = 4 ∨ 8 < c.2.1)), devM, [.arr (.int .i64) (formF c d).1, .arr (.int .u8) (formF c d).2])⟩
/-- a cycle, many times -/
def skipF (c : Cv) (d : Dv) (k : Int) : Dv := sel c.2.1 (memN c d.1, memM c d.2) (iterT k.toNat (timN d.1), []) (portN d.1, []) (iterF tickS k.toNat (serN d.1), []) (iterF (tickV (vM d.2)) k.toNat (vN d.1), vM d.2) (iterF tickW k.toNat (sndN d.1), []) (skipD k (dN d.1 (qF d.2), dM d.2)) ([], [])
def firstS : PSpec := ⟨[gD], fun (d, _) => (none, I (d.1.getD 0 0), [])⟩
theorem pin_first (N : List Int) : pinN N (N.getD 0 0) = portN N := rfl

def cSkipS : PSpec := ⟨[gC, gD, gi], fun (c, d, k, _) => (some (cP c ∧ dP d ∧ k ≤ 1500), devM, [.arr (.int .i64) (skipF c d k).1, .arr (.int .u8) (skipF c d k).2])⟩
end Go.Proofs.Ytanaaecfghmmaaa

/- Memories read and written. -/
namespace Go.Proofs.Ytanaaecfghmmaaa
open Go.Fw
set_option linter.unusedVariables false
set_option linter.unusedSimpArgs false
set_option linter.constructorNameAsVariable false
set_option maxRecDepth 100000

theorem u8s_over {l M : List Int} (h1 : u8s l) (h2 : u8s M) : u8s (over l M 0) := by
  rw [over_eq]
  intro x hx
  rcases List.mem_append.1 hx with hx | hx
  · exact h2 x (List.mem_of_mem_drop (List.mem_of_mem_take hx))
  · exact h1 x (List.mem_of_mem_drop hx)
theorem u8s_zero (n : Nat) : u8s (List.replicate n 0) := fun x hx => by
  rw [List.eq_of_mem_replicate hx]; decide
theorem memM_u8 (c : Cv) {M : List Int} (h : u8s M) : u8s (memM c M) := u8s_over (u8s_zero _) h
theorem u8s_getD {M : List Int} (h : u8s M) (n : Nat) : 0 ≤ M.getD n 0 ∧ M.getD n 0 < 256 := by
  by_cases hn : n < M.length
  · rw [List.getD_eq_getElem?_getD, List.getElem?_eq_getElem hn]
    exact h _ (List.getElem_mem hn)
  · rw [List.getD_eq_getElem?_getD, List.getElem?_eq_none (by omega)]; decide
theorem u8s_w {M : List Int} (h : u8s M) (n : Nat) : IntKind.i64.wrap (M.getD n 0) = M.getD n 0 := by
  have := u8s_getD h n
  exact w64 (by omega) (by omega)
def placeI (c : Cv) (d : Dv) (a : Int) : Int := if c.2.1 = 2 then (if a < 1 ∨ a > winI c then -1 else d.1.getD 0 0 * winI c + a - 1) else if a < 0 ∨ a ≥ (List.length d.2 : Nat) then -1 else a
def placeP (c : Cv) (d : Dv) : Prop := cP c ∧ (c.2.1 = 2 → 0 < List.length d.1 ∧ 0 ≤ d.1.getD 0 0 ∧ d.1.getD 0 0 < bankI c)
theorem bank_mul {n b w : Int} (h0 : 0 ≤ n) (h1 : n < b) (hw : 1 ≤ w) : 0 ≤ n * w ∧ n * w + w ≤ b * w := by
  have h2 : (n + 1) * w ≤ b * w := Int.mul_le_mul_of_nonneg_right (by omega) (by omega)
  have h3 : 0 ≤ n * w := Int.mul_nonneg h0 (by omega)
  rw [Int.add_mul, Int.one_mul] at h2
  exact ⟨h3, h2⟩
def mPlaceS : PSpec := ⟨[gC, gD, gi], fun (c, d, a, _) => (some (placeP c d), I (placeI c d a), [])⟩
/-- the state of a memory, in its form -/
def memD (c : Cv) (d : Dv) : Dv := (memN c d.1, memM c d.2)
theorem mem_placeP {c : Cv} (d : Dv) (h : cP c) : placeP c (memD c d) := by
  refine ⟨h, fun hk => ?_⟩
  obtain ⟨b1, b2, b3⟩ := bankI_in h.2.2
  unfold memD memN
  rw [if_pos hk]
  exact ⟨by show 0 < 1; omega, Int.emod_nonneg _ (by omega), Int.emod_lt_of_pos _ (by omega)⟩
theorem mem_place_in {c : Cv} (d : Dv) (h : cP c) {a : Int} (h2 : placeI c (memD c d) a ≥ 0) : placeI c (memD c d) a < ((memM c d.2).length : Nat) := by
  obtain ⟨b1, b2, b3⟩ := bankI_in h.2.2
  obtain ⟨w1, w2⟩ := winI_in c
  obtain ⟨_, hx⟩ := mem_placeP d h
  unfold placeI at h2 ⊢
  by_cases hk : c.2.1 = 2
  · rw [if_pos hk] at h2 ⊢
    by_cases ha : a < 1 ∨ a > winI c
    · rw [if_pos ha] at h2; omega
    · rw [if_neg ha]
      obtain ⟨_, n0, n1⟩ := hx hk
      obtain ⟨m1, m2⟩ := bank_mul n0 n1 w1
      rw [memM_len, bytesI, if_pos hk]
      omega
  · rw [if_neg hk] at h2 ⊢
    by_cases ha : a < 0 ∨ a ≥ ((memD c d).2.length : Nat)
    · rw [if_pos ha] at h2; omega
    · rw [if_neg ha]
      show a < ((memD c d).2.length : Nat)
      omega
def memRd (c : Cv) (d : Dv) (a : Int) : Int := if placeI c (memD c d) a ≥ 0 then (memM c d.2).getD (placeI c (memD c d) a).toNat 0 else if c.2.1 = 2 ∧ a = 0 then (memN c d.1).getD 0 0 else 0
def cReadMS : PSpec := ⟨[gC, gD, gi], fun (c, d, a, _) => (some (cP c ∧ dP d), .tup [devM1, I1 (memRd c d a)], [.arr (.int .i64) (memN c d.1), .arr (.int .u8) (memM c d.2)])⟩
def memWr (c : Cv) (d : Dv) (a k : Int) : Dv := if c.2.1 = 1 then memD c d else if placeI c (memD c d) a ≥ 0 then (memN c d.1, (memM c d.2).set (placeI c (memD c d) a).toNat (k % 256)) else if c.2.1 = 2 ∧ a = 0 then ((memN c d.1).set 0 (k % 256 % bankI c), memM c d.2) else memD c d
def cWriteMS : PSpec := ⟨[gC, gD, gi, gi], fun (c, d, a, k, _) => (some (cP c), devM, [.arr (.int .i64) (memWr c d a k).1, .arr (.int .u8) (memWr c d a k).2])⟩
def loadD (c : Cv) (d : Dv) (a : Int) : Dv := sel c.2.1 (memD c d) (trN d.1 a, []) (portN d.1, []) (srN d.1 a, []) (vrN d.1 a, vM d.2) (sndN d.1, []) (drN d.1 (qF d.2) a, dM d.2) ([], [])
def loadI (c : Cv) (d : Dv) (a : Int) : Int := sel c.2.1 (memRd c d a) (trF d.1 a) (preadF d.1 a) (srF d.1 a) (vrF d.1 (vM d.2) a) (orF d.1 a) (drF d.1 (qF d.2) a) 0
def storeF (c : Cv) (d : Dv) (a k : Int) : Dv := sel c.2.1 (memWr c d a k) (twN d.1 a k, []) (pwN d.1 a k, []) (swN d.1 a k, []) ([vP d.1, vH d.1], vwM (vM d.2) a k) (owF d.1 a k, []) (dwN d.1 (qF d.2) a k, dM d.2) ([], [])
def cReadS : PSpec := ⟨[gC, gD, gi], fun (c, d, a, _) => (some (cP c ∧ dP d), .tup [devM1, I1 (loadI c d a)], [.arr (.int .i64) (loadD c d a).1, .arr (.int .u8) (loadD c d a).2])⟩
theorem tup_x {r r' : Int} (h : r = r') : AV.tup [devM1, I1 r] = AV.tup [devM1, I1 r'] := by rw [h]
def cWriteS : PSpec := ⟨[gC, gD, gi, gi], fun (c, d, a, k, _) => (some (cP c ∧ dP d), devM, [.arr (.int .i64) (storeF c d a k).1, .arr (.int .u8) (storeF c d a k).2])⟩
def cTickS : PSpec := ⟨[gC, gD], fun (c, d, _) => (some (cP c ∧ dP d), devM, [.arr (.int .i64) (tickF c d).1, .arr (.int .u8) (tickF c d).2])⟩
theorem skip_one (c : Cv) (d : Dv) : skipF c d 1 = tickF c d := by
  obtain ⟨cn, ck, cb, cs, cd⟩ := c
  obtain ⟨N, M⟩ := d
  rcases kinds ck with rfl | rfl | rfl | rfl | rfl | rfl | rfl | rfl | rfl | hx
  all_goals first
    | rfl
    | (unfold skipF tickF; rw [sel_x hx, sel_x hx])
end Go.Proofs.Ytanaaecfghmmaaa

/- Chips: which are valid. -/
namespace Go.Proofs.Ytanaaecfghmmaaa
open Go.Fw
set_option linter.unusedVariables false
set_option linter.unusedSimpArgs false
set_option linter.constructorNameAsVariable false
set_option maxRecDepth 100000

def cmemoryS : PSpec := ⟨[gi], fun (k, _) => (none, .cell (bv (decide (k = 0) || (decide (k = 1) || decide (k = 2)))), [])⟩
theorem cmemory_ok : GoodF Try.prog 108 cmemoryS.spec := by
  have hT := tab_ok (fs := []) tree_ok
  have hP : SpecsOk Try.prog (tab tree []) := specs_nil
  refine cmemoryS.good (fn := Try.f108) hT hP Try.func108 (by kernel_rfl) rfl fun (k : Int) _ => ?_
  repeat' first
    | (refine Go.mk ?_; conv => whnf)
    | refine Need.go ?_ ?_
    | refine NilG.go (fun _ => ?_) (fun _ => ?_)
    | refine Br.dec (fun _ => ?_) (fun _ => ?_)
    | refine Br.go (fun _ => ?_) (fun _ => ?_)
    | refine draw_go hT hP mixed ?_
    | refine round_go hT hP ?_
  all_goals (refine .mk [] [] _ rfl rfl rfl rfl rfl rfl (imm_bool ?_))
  all_goals (simp_all)
  all_goals (by_cases h : k = 2 <;> simp [h])
def sizeK (k : Int) : Int := sel k 0 4 2 3 32 8 4 0
def csizeS : PSpec := ⟨[gi], fun (k, _) => (none, I (sizeK k), [])⟩
theorem csize_ok : GoodF Try.prog 109 csizeS.spec := by
  have hT := tab_ok (fs := []) tree_ok
  have hP : SpecsOk Try.prog (tab tree []) := specs_nil
  refine csizeS.good (fn := Try.f109) hT hP Try.func109 (by kernel_rfl) rfl fun (k : Int) _ => ?_
  rcases kinds k with rfl | rfl | rfl | rfl | rfl | rfl | rfl | rfl | rfl | hx
  all_goals
    repeat' first
      | (refine Go.mk ?_; conv => whnf)
      | refine Need.go ?_ ?_
      | refine NilG.go (fun _ => ?_) (fun _ => ?_)
      | refine Br.dec (fun _ => ?_) (fun _ => ?_)
      | refine Br.go (fun _ => ?_) (fun _ => ?_)
      | refine draw_go hT hP mixed ?_
      | refine round_go hT hP ?_
  all_goals first
    | exact .mk [] [] _ rfl rfl rfl rfl rfl rfl rfl
    | (exfalso; dsimp only [gi, Den] at *; omega)
    | exact .mk [] [] _ rfl rfl rfl rfl rfl rfl (imm_int (sel_x hx ..).symm)
    | skip

def cpuStr : ByteArray := ⟨#[99, 112, 117]⟩
def chipBad (k s : Int) (n : Nat) : Bool := (decide (k = 0 ∨ k = 1) && decide ((n : Int) > s)) || ((decide (3 ≤ k ∧ k ≤ 7) && decide (n > 0)) || (decide (k = 8) && decide (¬ n % 256 = 0)))
def chipE (c : Cv) : Int :=
  if nameB (bytesOf c.1) = false then 15 else if strEq c.1 cpuStr = true then 20 else if c.2.1 < 0 ∨ 8 < c.2.1 then 8
  else if (c.2.1 ≤ 2 ∧ c.2.2.2.1 < (if c.2.1 = 2 then 2 else 1)) ∨ (2 < c.2.1 ∧ ¬ c.2.2.2.1 = sizeK c.2.1) then 1 else if c.2.2.2.1 > 4096 ∨ List.length c.2.2.2.2 > 4096 then 2
  else if c.2.2.1 < 0 ∨ c.2.2.1 > IntKind.i64.wrap (65536 - c.2.2.2.1) then 19 else if chipBad c.2.1 c.2.2.2.1 (List.length c.2.2.2.2) = true then 3 else 0
def chipES : PSpec := ⟨[gC], fun (c, _) => (some (cP c), I (chipE c), [])⟩
set_option maxHeartbeats 8000000 in
theorem cCheck_ok : GoodF Try.prog 83 chipES.spec := by
  have hT := tab_ok (fs := [(19, nameS.spec), (108, cmemoryS.spec), (109, csizeS.spec)]) tree_ok
  have hP : SpecsOk Try.prog (tab tree [(19, nameS.spec), (108, cmemoryS.spec), (109, csizeS.spec)]) := specs_cons tName_ok (specs_cons cmemory_ok (specs_cons csize_ok specs_nil))
  refine chipES.good (fn := Try.f83) hT hP Try.func83 (by kernel_rfl) rfl fun (c : Cv) hp => ?_
  obtain ⟨hb, hs, hl⟩ : cP c := hp _ rfl
  obtain ⟨cn, ck, cb, cs, cd⟩ := c
  obtain ⟨hs1, hs2⟩ : -9223372036854775808 ≤ cs ∧ cs ≤ 9223372036854775807 := hs
  clear hp hb hl
  have hcn : cpuStr = ⟨#[99, 112, 117]⟩ := rfl
  have htm : Int.tmod (cd.length : Int) 256 = ((cd.length % 256 : Nat) : Int) := by rw [Int.tmod_eq_emod_of_nonneg (by omega)]; omega
  rcases kinds ck with rfl | rfl | rfl | rfl | rfl | rfl | rfl | rfl | rfl | hx
  rotate_right
  · have h8 : ¬ (¬ ck < 0 ∧ ¬ ck ≥ 9) := by omega
    repeat' first
      | (exfalso; exact h8 ⟨by assumption, by assumption⟩)
      | (refine Go.mk ?_; conv => whnf)
      | refine Need.go ?_ ?_
      | refine NilG.go (fun _ => ?_) (fun _ => ?_)
      | refine Br.dec (fun _ => ?_) (fun _ => ?_)
      | refine Br.go (fun _ => ?_) (fun _ => ?_)
      | refine draw_go hT hP mixed ?_
      | refine round_go hT hP ?_
    all_goals (try dsimp only [castL_eq] at *)
    all_goals clear hT hP
    all_goals (refine .mk [] [] _ rfl rfl rfl rfl rfl rfl (imm_int ?_))
    all_goals (show _ = chipE (cn, ck, cb, cs, cd))
    all_goals (unfold chipE)
    all_goals (dsimp only)
    all_goals (simp_all)
    all_goals (intros; omega)
  · repeat' first
      | (refine Go.mk ?_; conv => whnf)
      | refine Need.go ?_ ?_
      | refine NilG.go (fun _ => ?_) (fun _ => ?_)
      | refine Br.dec (fun _ => ?_) (fun _ => ?_)
      | refine Br.go (fun _ => ?_) (fun _ => ?_)
      | refine draw_go hT hP mixed ?_
      | refine round_go hT hP ?_
    all_goals (try dsimp only [castL_eq] at *)
    all_goals first
      | exact of_decide_eq_true rfl
      | skip
    all_goals clear hT hP
    all_goals (refine .mk [] [] _ rfl rfl rfl rfl rfl rfl (imm_int ?_))
    all_goals (show _ = chipE (cn, 0, cb, cs, cd))
    all_goals (simp_all [chipE, chipBad, sizeK, sel])
    all_goals (intros; (repeat' split) <;> omega)
  · repeat' first
      | (refine Go.mk ?_; conv => whnf)
      | refine Need.go ?_ ?_
      | refine NilG.go (fun _ => ?_) (fun _ => ?_)
      | refine Br.dec (fun _ => ?_) (fun _ => ?_)
      | refine Br.go (fun _ => ?_) (fun _ => ?_)
      | refine draw_go hT hP mixed ?_
      | refine round_go hT hP ?_
    all_goals (try dsimp only [castL_eq] at *)
    all_goals first
      | exact of_decide_eq_true rfl
      | skip
    all_goals clear hT hP
    all_goals (refine .mk [] [] _ rfl rfl rfl rfl rfl rfl (imm_int ?_))
    all_goals (show _ = chipE (cn, 1, cb, cs, cd))
    all_goals (simp_all [chipE, chipBad, sizeK, sel])
    all_goals (intros; (repeat' split) <;> omega)
  · repeat' first
      | (refine Go.mk ?_; conv => whnf)
      | refine Need.go ?_ ?_
      | refine NilG.go (fun _ => ?_) (fun _ => ?_)
      | refine Br.dec (fun _ => ?_) (fun _ => ?_)
      | refine Br.go (fun _ => ?_) (fun _ => ?_)
      | refine draw_go hT hP mixed ?_
      | refine round_go hT hP ?_
    all_goals (try dsimp only [castL_eq] at *)
    all_goals first
      | exact of_decide_eq_true rfl
      | skip
    all_goals clear hT hP
    all_goals (refine .mk [] [] _ rfl rfl rfl rfl rfl rfl (imm_int ?_))
    all_goals (show _ = chipE (cn, 2, cb, cs, cd))
    all_goals (simp_all [chipE, chipBad, sizeK, sel])
    all_goals (intros; (repeat' split) <;> omega)
  · repeat' first
      | (refine Go.mk ?_; conv => whnf)
      | refine Need.go ?_ ?_
      | refine NilG.go (fun _ => ?_) (fun _ => ?_)
      | refine Br.dec (fun _ => ?_) (fun _ => ?_)
      | refine Br.go (fun _ => ?_) (fun _ => ?_)
      | refine draw_go hT hP mixed ?_
      | refine round_go hT hP ?_
    all_goals (try dsimp only [castL_eq] at *)
    all_goals first
      | exact of_decide_eq_true rfl
      | skip
    all_goals clear hT hP
    all_goals (refine .mk [] [] _ rfl rfl rfl rfl rfl rfl (imm_int ?_))
    all_goals (show _ = chipE (cn, 3, cb, cs, cd))
    all_goals (simp_all [chipE, chipBad, sizeK, sel])
    all_goals (intros; (repeat' split) <;> omega)
  · repeat' first
      | (refine Go.mk ?_; conv => whnf)
      | refine Need.go ?_ ?_
      | refine NilG.go (fun _ => ?_) (fun _ => ?_)
      | refine Br.dec (fun _ => ?_) (fun _ => ?_)
      | refine Br.go (fun _ => ?_) (fun _ => ?_)
      | refine draw_go hT hP mixed ?_
      | refine round_go hT hP ?_
    all_goals (try dsimp only [castL_eq] at *)
    all_goals first
      | exact of_decide_eq_true rfl
      | skip
    all_goals clear hT hP
    all_goals (refine .mk [] [] _ rfl rfl rfl rfl rfl rfl (imm_int ?_))
    all_goals (show _ = chipE (cn, 4, cb, cs, cd))
    all_goals (simp_all [chipE, chipBad, sizeK, sel])
    all_goals (intros; (repeat' split) <;> omega)
  · repeat' first
      | (refine Go.mk ?_; conv => whnf)
      | refine Need.go ?_ ?_
      | refine NilG.go (fun _ => ?_) (fun _ => ?_)
      | refine Br.dec (fun _ => ?_) (fun _ => ?_)
      | refine Br.go (fun _ => ?_) (fun _ => ?_)
      | refine draw_go hT hP mixed ?_
      | refine round_go hT hP ?_
    all_goals (try dsimp only [castL_eq] at *)
    all_goals first
      | exact of_decide_eq_true rfl
      | skip
    all_goals clear hT hP
    all_goals (refine .mk [] [] _ rfl rfl rfl rfl rfl rfl (imm_int ?_))
    all_goals (show _ = chipE (cn, 5, cb, cs, cd))
    all_goals (simp_all [chipE, chipBad, sizeK, sel])
    all_goals (intros; (repeat' split) <;> omega)
  · repeat' first
      | (refine Go.mk ?_; conv => whnf)
      | refine Need.go ?_ ?_
      | refine NilG.go (fun _ => ?_) (fun _ => ?_)
      | refine Br.dec (fun _ => ?_) (fun _ => ?_)
      | refine Br.go (fun _ => ?_) (fun _ => ?_)
      | refine draw_go hT hP mixed ?_
      | refine round_go hT hP ?_
    all_goals (try dsimp only [castL_eq] at *)
    all_goals first
      | exact of_decide_eq_true rfl
      | skip
    all_goals clear hT hP
    all_goals (refine .mk [] [] _ rfl rfl rfl rfl rfl rfl (imm_int ?_))
    all_goals (show _ = chipE (cn, 6, cb, cs, cd))
    all_goals (simp_all [chipE, chipBad, sizeK, sel])
    all_goals (intros; (repeat' split) <;> omega)
  · repeat' first
      | (refine Go.mk ?_; conv => whnf)
      | refine Need.go ?_ ?_
      | refine NilG.go (fun _ => ?_) (fun _ => ?_)
      | refine Br.dec (fun _ => ?_) (fun _ => ?_)
      | refine Br.go (fun _ => ?_) (fun _ => ?_)
      | refine draw_go hT hP mixed ?_
      | refine round_go hT hP ?_
    all_goals (try dsimp only [castL_eq] at *)
    all_goals first
      | exact of_decide_eq_true rfl
      | skip
    all_goals clear hT hP
    all_goals (refine .mk [] [] _ rfl rfl rfl rfl rfl rfl (imm_int ?_))
    all_goals (show _ = chipE (cn, 7, cb, cs, cd))
    all_goals (simp_all [chipE, chipBad, sizeK, sel])
    all_goals (intros; (repeat' split) <;> omega)
  · repeat' first
      | (refine Go.mk ?_; conv => whnf)
      | refine Need.go ?_ ?_
      | refine NilG.go (fun _ => ?_) (fun _ => ?_)
      | refine Br.dec (fun _ => ?_) (fun _ => ?_)
      | refine Br.go (fun _ => ?_) (fun _ => ?_)
      | refine draw_go hT hP mixed ?_
      | refine round_go hT hP ?_
    all_goals (try dsimp only [castL_eq] at *)
    all_goals first
      | exact of_decide_eq_true rfl
      | skip
    all_goals clear hT hP
    all_goals (refine .mk [] [] _ rfl rfl rfl rfl rfl rfl (imm_int ?_))
    all_goals (show _ = chipE (cn, 8, cb, cs, cd))
    all_goals (simp_all [chipE, chipBad, sizeK, sel])
    all_goals (intros; (repeat' split) <;> omega)
set_option maxHeartbeats 8000000 in
theorem rChipErr_ok : GoodF Try.prog 86 chipES.spec := by
  have hT := tab_ok (fs := [(20, nameS.spec)]) tree_ok
  have hP : SpecsOk Try.prog (tab tree [(20, nameS.spec)]) := specs_cons rNamed_ok specs_nil
  refine chipES.good (fn := Try.f86) hT hP Try.func86 (by kernel_rfl) rfl fun (c : Cv) hp => ?_
  obtain ⟨hb, hs, hl⟩ : cP c := hp _ rfl
  obtain ⟨cn, ck, cb, cs, cd⟩ := c
  obtain ⟨hs1, hs2⟩ : -9223372036854775808 ≤ cs ∧ cs ≤ 9223372036854775807 := hs
  clear hp hb hl
  have hcn : cpuStr = ⟨#[99, 112, 117]⟩ := rfl
  have htm : Int.tmod (cd.length : Int) 256 = ((cd.length % 256 : Nat) : Int) := by rw [Int.tmod_eq_emod_of_nonneg (by omega)]; omega
  rcases kinds ck with rfl | rfl | rfl | rfl | rfl | rfl | rfl | rfl | rfl | hx
  rotate_right
  · have h8 : ¬ (¬ ck < 0 ∧ ¬ ck > 8) := by omega
    repeat' first
      | (exfalso; exact h8 ⟨by assumption, by assumption⟩)
      | (refine Go.mk ?_; conv => whnf)
      | refine Need.go ?_ ?_
      | refine NilG.go (fun _ => ?_) (fun _ => ?_)
      | refine Br.dec (fun _ => ?_) (fun _ => ?_)
      | refine Br.go (fun _ => ?_) (fun _ => ?_)
      | refine draw_go hT hP mixed ?_
      | refine round_go hT hP ?_
    all_goals (try dsimp only [castL_eq] at *)
    all_goals clear hT hP
    all_goals (refine .mk [] [] _ rfl rfl rfl rfl rfl rfl (imm_int ?_))
    all_goals (show _ = chipE (cn, ck, cb, cs, cd))
    all_goals (unfold chipE)
    all_goals (dsimp only)
    all_goals (simp_all)
    all_goals (intros; omega)
  · repeat' first
      | (refine Go.mk ?_; conv => whnf)
      | refine Need.go ?_ ?_
      | refine NilG.go (fun _ => ?_) (fun _ => ?_)
      | refine Br.dec (fun _ => ?_) (fun _ => ?_)
      | refine Br.go (fun _ => ?_) (fun _ => ?_)
      | refine draw_go hT hP mixed ?_
      | refine round_go hT hP ?_
    all_goals (try dsimp only [castL_eq] at *)
    all_goals first
      | exact of_decide_eq_true rfl
      | skip
    all_goals clear hT hP
    all_goals (refine .mk [] [] _ rfl rfl rfl rfl rfl rfl (imm_int ?_))
    all_goals (show _ = chipE (cn, 0, cb, cs, cd))
    all_goals (simp_all [chipE, chipBad, sizeK, sel, imax_eq])
    all_goals (intros; (repeat' split) <;> first | omega | (have hz := List.length_pos_iff.2 (by assumption : cd ≠ []); omega))
  · repeat' first
      | (refine Go.mk ?_; conv => whnf)
      | refine Need.go ?_ ?_
      | refine NilG.go (fun _ => ?_) (fun _ => ?_)
      | refine Br.dec (fun _ => ?_) (fun _ => ?_)
      | refine Br.go (fun _ => ?_) (fun _ => ?_)
      | refine draw_go hT hP mixed ?_
      | refine round_go hT hP ?_
    all_goals (try dsimp only [castL_eq] at *)
    all_goals first
      | exact of_decide_eq_true rfl
      | skip
    all_goals clear hT hP
    all_goals (refine .mk [] [] _ rfl rfl rfl rfl rfl rfl (imm_int ?_))
    all_goals (show _ = chipE (cn, 1, cb, cs, cd))
    all_goals (simp_all [chipE, chipBad, sizeK, sel, imax_eq])
    all_goals (intros; (repeat' split) <;> first | omega | (have hz := List.length_pos_iff.2 (by assumption : cd ≠ []); omega))
  · repeat' first
      | (refine Go.mk ?_; conv => whnf)
      | refine Need.go ?_ ?_
      | refine NilG.go (fun _ => ?_) (fun _ => ?_)
      | refine Br.dec (fun _ => ?_) (fun _ => ?_)
      | refine Br.go (fun _ => ?_) (fun _ => ?_)
      | refine draw_go hT hP mixed ?_
      | refine round_go hT hP ?_
    all_goals (try dsimp only [castL_eq] at *)
    all_goals first
      | exact of_decide_eq_true rfl
      | skip
    all_goals clear hT hP
    all_goals (refine .mk [] [] _ rfl rfl rfl rfl rfl rfl (imm_int ?_))
    all_goals (show _ = chipE (cn, 2, cb, cs, cd))
    all_goals (simp_all [chipE, chipBad, sizeK, sel, imax_eq])
    all_goals (intros; (repeat' split) <;> first | omega | (have hz := List.length_pos_iff.2 (by assumption : cd ≠ []); omega))
  · repeat' first
      | (refine Go.mk ?_; conv => whnf)
      | refine Need.go ?_ ?_
      | refine NilG.go (fun _ => ?_) (fun _ => ?_)
      | refine Br.dec (fun _ => ?_) (fun _ => ?_)
      | refine Br.go (fun _ => ?_) (fun _ => ?_)
      | refine draw_go hT hP mixed ?_
      | refine round_go hT hP ?_
    all_goals (try dsimp only [castL_eq] at *)
    all_goals first
      | exact of_decide_eq_true rfl
      | skip
    all_goals clear hT hP
    all_goals (refine .mk [] [] _ rfl rfl rfl rfl rfl rfl (imm_int ?_))
    all_goals (show _ = chipE (cn, 3, cb, cs, cd))
    all_goals (simp_all [chipE, chipBad, sizeK, sel, imax_eq])
    all_goals (intros; (repeat' split) <;> first | omega | (have hz := List.length_pos_iff.2 (by assumption : cd ≠ []); omega))
  · repeat' first
      | (refine Go.mk ?_; conv => whnf)
      | refine Need.go ?_ ?_
      | refine NilG.go (fun _ => ?_) (fun _ => ?_)
      | refine Br.dec (fun _ => ?_) (fun _ => ?_)
      | refine Br.go (fun _ => ?_) (fun _ => ?_)
      | refine draw_go hT hP mixed ?_
      | refine round_go hT hP ?_
    all_goals (try dsimp only [castL_eq] at *)
    all_goals first
      | exact of_decide_eq_true rfl
      | skip
    all_goals clear hT hP
    all_goals (refine .mk [] [] _ rfl rfl rfl rfl rfl rfl (imm_int ?_))
    all_goals (show _ = chipE (cn, 4, cb, cs, cd))
    all_goals (simp_all [chipE, chipBad, sizeK, sel, imax_eq])
    all_goals (intros; (repeat' split) <;> first | omega | (have hz := List.length_pos_iff.2 (by assumption : cd ≠ []); omega))
  · repeat' first
      | (refine Go.mk ?_; conv => whnf)
      | refine Need.go ?_ ?_
      | refine NilG.go (fun _ => ?_) (fun _ => ?_)
      | refine Br.dec (fun _ => ?_) (fun _ => ?_)
      | refine Br.go (fun _ => ?_) (fun _ => ?_)
      | refine draw_go hT hP mixed ?_
      | refine round_go hT hP ?_
    all_goals (try dsimp only [castL_eq] at *)
    all_goals first
      | exact of_decide_eq_true rfl
      | skip
    all_goals clear hT hP
    all_goals (refine .mk [] [] _ rfl rfl rfl rfl rfl rfl (imm_int ?_))
    all_goals (show _ = chipE (cn, 5, cb, cs, cd))
    all_goals (simp_all [chipE, chipBad, sizeK, sel, imax_eq])
    all_goals (intros; (repeat' split) <;> first | omega | (have hz := List.length_pos_iff.2 (by assumption : cd ≠ []); omega))
  · repeat' first
      | (refine Go.mk ?_; conv => whnf)
      | refine Need.go ?_ ?_
      | refine NilG.go (fun _ => ?_) (fun _ => ?_)
      | refine Br.dec (fun _ => ?_) (fun _ => ?_)
      | refine Br.go (fun _ => ?_) (fun _ => ?_)
      | refine draw_go hT hP mixed ?_
      | refine round_go hT hP ?_
    all_goals (try dsimp only [castL_eq] at *)
    all_goals first
      | exact of_decide_eq_true rfl
      | skip
    all_goals clear hT hP
    all_goals (refine .mk [] [] _ rfl rfl rfl rfl rfl rfl (imm_int ?_))
    all_goals (show _ = chipE (cn, 6, cb, cs, cd))
    all_goals (simp_all [chipE, chipBad, sizeK, sel, imax_eq])
    all_goals (intros; (repeat' split) <;> first | omega | (have hz := List.length_pos_iff.2 (by assumption : cd ≠ []); omega))
  · repeat' first
      | (refine Go.mk ?_; conv => whnf)
      | refine Need.go ?_ ?_
      | refine NilG.go (fun _ => ?_) (fun _ => ?_)
      | refine Br.dec (fun _ => ?_) (fun _ => ?_)
      | refine Br.go (fun _ => ?_) (fun _ => ?_)
      | refine draw_go hT hP mixed ?_
      | refine round_go hT hP ?_
    all_goals (try dsimp only [castL_eq] at *)
    all_goals first
      | exact of_decide_eq_true rfl
      | skip
    all_goals clear hT hP
    all_goals (refine .mk [] [] _ rfl rfl rfl rfl rfl rfl (imm_int ?_))
    all_goals (show _ = chipE (cn, 7, cb, cs, cd))
    all_goals (simp_all [chipE, chipBad, sizeK, sel, imax_eq])
    all_goals (intros; (repeat' split) <;> first | omega | (have hz := List.length_pos_iff.2 (by assumption : cd ≠ []); omega))
  · repeat' first
      | (refine Go.mk ?_; conv => whnf)
      | refine Need.go ?_ ?_
      | refine NilG.go (fun _ => ?_) (fun _ => ?_)
      | refine Br.dec (fun _ => ?_) (fun _ => ?_)
      | refine Br.go (fun _ => ?_) (fun _ => ?_)
      | refine draw_go hT hP mixed ?_
      | refine round_go hT hP ?_
    all_goals (try dsimp only [castL_eq] at *)
    all_goals first
      | exact of_decide_eq_true rfl
      | skip
    all_goals clear hT hP
    all_goals (refine .mk [] [] _ rfl rfl rfl rfl rfl rfl (imm_int ?_))
    all_goals (show _ = chipE (cn, 8, cb, cs, cd))
    all_goals (simp_all [chipE, chipBad, sizeK, sel, imax_eq])
    all_goals (intros; (repeat' split) <;> first | omega | (have hz := List.length_pos_iff.2 (by assumption : cd ≠ []); omega))

end Go.Proofs.Ytanaaecfghmmaaa

