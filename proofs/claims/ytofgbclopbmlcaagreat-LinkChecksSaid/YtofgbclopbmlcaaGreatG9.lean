/- Part 9 of the proof: Fw31 VideoLaw TurnLaw Turn Turn2 Shade Video Video2 Mem DriveO Video3 Kind Kind2 ChipE Kind3 Kind4 Kind5 Kind6 VideoActs Good Board Wires Finds0 Finds EqDev StrOf MachLaw Mach. No statement is handed in here; conditions: none. -/
import Derived.Test.YtofgbclopbmlcaaGreatG8
import Derived.Test.YtofgbclopbmlcaaGreatG6
import Derived.ChangeArms
import Derived.ChangeOld
import Derived.SizedLaws
import Derived.Test.YtofgbclopbmlcaaGreatG7
/- What an argument that reads well is as typed data. -/
namespace Go.Fw
open Go.ChangeShapes Go.WideShapes
set_option linter.unusedVariables false
set_option linter.unusedSimpArgs false

def Wf : (u : Ty) → Den u → Prop
  | .int k, x => (Lit.int k x).wf = true
  | .ints k n, l => List.length l = n ∧ ∀ x ∈ (l : List Int), (Lit.int k x).wf = true
  | .bool, _ => True
  | .str, s => ByteArray.size s ≤ reachBytes
  | .sl t, l => List.length l * t.by_ ≤ reachBytes ∧ ∀ x ∈ (l : List (Den t)), Wf t x
  | .pair a b, x => Wf a x.1 ∧ Wf b x.2

theorem addr_add (a : Addr) (x y : Nat) : (a.add x).add y = a.add (x + y) := by
  unfold Addr.add
  split <;> split <;> simp_all [Nat.add_assoc]

/-- a measure of what an argument reads as -/
structure BulkLaw {H : Type} (bk : DataW H → Nat) (ba : List (DataW H) → Nat) : Prop where
  cons : ∀ d r, bk d + ba r ≤ ba (d :: r)
  one : ∀ d, 1 ≤ bk d
  sl : ∀ e s, ba e + 1 ≤ bk (.slice e s)
  ag : ∀ p, ba p ≤ bk (.agg p)
  st : ∀ b, b.length + 1 ≤ bk (.lit (.string b))
/-- the measure of typed data -/
def bd : (u : Ty) → Den u → Nat
  | .int _, _ => 1
  | .ints _ n, _ => n
  | .bool, _ => 1
  | .str, s => ByteArray.size s + 1
  | .sl t, l => (List.map (bd t) l).sum + 1
  | .pair a b, x => bd a x.1 + bd b x.2
theorem BulkLaw.len {H : Type} {bk : DataW H → Nat} {ba : List (DataW H) → Nat} (B : BulkLaw bk ba) : ∀ l, l.length ≤ ba l
  | [] => Nat.zero_le _
  | d :: r => by
    have h1 := B.cons d r
    have h2 := B.one d
    have h3 := B.len r
    simp only [List.length_cons]
    omega
def sumTo (B : Nat → Nat) : Nat → Nat
  | 0 => 0
  | n + 1 => sumTo B n + B n
theorem sumTo_succ (B : Nat → Nat) : ∀ n, sumTo B (n + 1) = B 0 + sumTo (fun i => B (i + 1)) n
  | 0 => by simp [sumTo]
  | n + 1 => by rw [sumTo, sumTo_succ B n, sumTo]; omega
theorem BulkLaw.sum {H : Type} {bk : DataW H → Nat} {ba : List (DataW H) → Nat} (B : BulkLaw bk ba) : ∀ l : List (DataW H), sumTo (fun i => bk (l.getD i .nil)) l.length ≤ ba l
  | [] => Nat.zero_le _
  | d :: r => by
    have h1 := B.cons d r
    have h2 := B.sum r
    rw [List.length_cons, sumTo_succ]
    simp only [List.getD_cons_zero, List.getD_cons_succ]
    omega
theorem bulk_size (H : Type) : BulkLaw (H := H) (fun d => SizeOf.sizeOf d) (fun l => SizeOf.sizeOf l) where
  cons := fun d r => by simp
  one := fun d => by cases d <;> simp <;> omega
  sl := fun e s => by simp; omega
  ag := fun p => by simp
  st := fun b => by
    have : ∀ b : List UInt8, b.length ≤ SizeOf.sizeOf b := by
      intro b
      induction b with
      | nil => simp
      | cons x r ih => simp; omega
    have := this b
    simp; omega

theorem rows_listB {α : Type} {R : α → List Value → Prop} {Q : α → Prop} {m : α → Nat} {B : Nat → Nat} {w : World} {a : Addr} {c : Nat} : ∀ (len : Nat), (∀ i, i < len → ∃ d r, R d r ∧ (Q d ∧ m d ≤ B i) ∧ r.length = c ∧ ∀ j, j < c → w.cell? ((a.add (i * c)).add j) = r[j]?) →
    ∃ (l : List α) (us : List Value), l.length = len ∧ ListRel R l us ∧ (∀ x ∈ l, Q x) ∧ us.length = len * c ∧ (∀ k u, us[k]? = some u → w.cell? (a.add k) = some u) ∧ (l.map m).sum ≤ sumTo B len
  | 0, _ => ⟨[], [], rfl, rfl, fun x h => (by cases h), by simp, fun k u h => (by simp at h), Nat.le_refl _⟩
  | len + 1, h => by
    obtain ⟨l, us, h1, h2, h3, h4, h5, h6⟩ := rows_listB len fun i hi => h i (by omega)
    obtain ⟨d, r, g1, ⟨g2, g5⟩, g3, g4⟩ := h len (by omega)
    refine ⟨l ++ [d], us ++ r, by simp [h1], h2.append ⟨r, [], by simp, g1, rfl⟩, fun x hx => ?_, by simp [h4, g3, Nat.add_mul], fun k u hk => ?_, by simp [sumTo]; omega⟩
    · rcases List.mem_append.1 hx with hx | hx
      · exact h3 x hx
      · simp at hx; subst hx; exact g2
    · rw [List.getElem?_append] at hk
      split at hk
      · exact h5 k u hk
      · have hlt := (List.getElem?_eq_some_iff.1 hk).1
        have := g4 (k - us.length) (by omega)
        rw [addr_add] at this
        have e : len * c + (k - us.length) = k := by omega
        rw [e] at this
        rw [this, hk]

section
variable {H : Type} {enc : TypeId × Value → H} {P : Program} {w : World} {sp : Nat → Bool} {held : Bool}

def inHeap (w : World) (g : Nat) : Prop := g < w.heap.size

theorem weights_mem {e : TypeId} {d : DataW H} {n : Nat} (hn : n ∈ DataW.weights P e d) : ∀ {l : List (DataW H)}, d ∈ l → n ∈ DataW.weightsAll P e l
  | [], h => by cases h
  | x :: l, h => by
    simp only [DataW.weightsAll, List.mem_append]
    rcases List.mem_cons.1 h with rfl | h
    · exact .inl hn
    · exact .inr (weights_mem hn h)

variable {bk : DataW H → Nat} {ba : List (DataW H) → Nat}
theorem fits_struct (B : BulkLaw bk ba) {g : Ty → TypeId → Bool} {n : Nat} (ih : ∀ {u : Ty} {t : TypeId} {cs : List Value} {x : DataW H × List MemPlace}, g u t = true → (∀ z ∈ DataW.weights P t x.1, z ≤ reachBytes) → DataW.trod enc P w 0 sp held n t cs = some x → ∃ d : Den u, CR w (inHeap w) u d cs ∧ Wf u d ∧ bd u d ≤ bk x.1) :
    ∀ (fs : List Field) (u : Ty) (off : Nat) (cs : List Value) (xs : List (DataW H × List MemPlace)), fitsF P g u fs off = true → off + u.size = cs.length → xs.length = fs.length → (∀ z ∈ DataW.weightsEach P (fs.map (·.type)) (xs.map (·.1)), z ≤ reachBytes) →
      (∀ (i : Nat) (f : Field), fs[i]? = some f → DataW.trod enc P w 0 sp held n f.type ((cs.drop f.offset).take (P.cellsOf f.type)) = xs[i]?) → ∃ d : Den u, CR w (inHeap w) u d (cs.drop off) ∧ Wf u d ∧ bd u d ≤ ba (xs.map (·.1))
  | [], u, off, cs, xs, h, _, _, _, _ => by simp [fitsF] at h
  | [f], u, off, cs, xs, h, hl, hxl, hz, hx => by
    simp only [fitsF, Bool.and_eq_true] at h
    obtain ⟨⟨h1, h2⟩, h3⟩ := h
    have h2 := Nat.eq_of_beq_eq_true h2
    have h3 := Nat.eq_of_beq_eq_true h3
    have := hx 0 f rfl
    have hlt : 0 < xs.length := by rw [hxl]; simp
    rw [List.getElem?_eq_getElem hlt, h2, h3, List.take_of_length_le (by simp; omega)] at this
    obtain ⟨d0, c0, w0, b0⟩ := ih h1 (fun z hz' => hz z (by
      cases xs with
      | nil => simp at hlt
      | cons y ys => simp only [List.map_cons, DataW.weightsEach, List.mem_append]; exact .inl hz')) this
    refine ⟨d0, c0, w0, ?_⟩
    cases xs with
    | nil => simp at hlt
    | cons y ys =>
      have := B.cons y.1 (ys.map (·.1))
      simp only [List.map_cons]
      simp only [List.getElem_cons_zero] at b0
      omega
  | f :: f' :: fs, u, off, cs, xs, h, hl, hxl, hz, hx => by
    unfold fitsF at h
    split at h
    · rename_i a b
      simp only [Bool.and_eq_true] at h
      obtain ⟨⟨⟨h1, h2⟩, h3⟩, h4⟩ := h
      have h2 := Nat.eq_of_beq_eq_true h2
      have h3 := Nat.eq_of_beq_eq_true h3
      have h0 := hx 0 f rfl
      have hlt : 0 < xs.length := by rw [hxl]; simp
      rw [List.getElem?_eq_getElem hlt, h2, h3] at h0
      have hz1 : ∀ z ∈ DataW.weights P f.type xs[0].1, z ≤ reachBytes := fun z hz' => hz z (by
        cases xs with
        | nil => simp at hlt
        | cons y ys => simp only [List.map_cons, DataW.weightsEach, List.mem_append]; exact .inl hz')
      have hz2 : ∀ z ∈ DataW.weightsEach P ((f' :: fs).map (·.type)) (xs.tail.map (·.1)), z ≤ reachBytes := fun z hz' => hz z (by
        cases xs with
        | nil => simp at hlt
        | cons y ys => rw [show ((f :: f' :: fs).map (·.type)) = f.type :: (f' :: fs).map (·.type) from rfl, show ((y :: ys).map (·.1)) = y.1 :: ys.map (·.1) from rfl, DataW.weightsEach, List.mem_append]; exact .inr hz')
      obtain ⟨d1, c1, w1, b1⟩ := ih h1 hz1 h0
      obtain ⟨d2, c2, w2, b2⟩ := fits_struct B ih (f' :: fs) b (off + a.size) cs xs.tail h4 (by simp only [Ty.size] at hl; omega) (by simp [hxl]) hz2 fun i g hg => by
        have := hx (i + 1) g (by simpa using hg)
        rw [this]
        cases xs with
        | nil => simp at hlt
        | cons y ys => simp
      refine ⟨(d1, d2), ⟨_, _, by rw [← List.drop_drop, List.take_append_drop], c1, c2⟩, ⟨w1, w2⟩, ?_⟩
      cases xs with
      | nil => simp at hlt
      | cons y ys =>
        have := B.cons y.1 (ys.map (·.1))
        simp only [List.map_cons, bd]
        simp only [List.getElem_cons_zero] at b1
        simp only [List.tail_cons] at b2
        omega
    · cases h

theorem trod_array {t e : TypeId} {m fuel : Nat} {cs : List Value} {x : DataW H × List MemPlace} (ht : P.underlying t = some (.array m e)) (h : DataW.trod enc P w 0 sp held fuel t cs = some x) :
    ∃ (xs : List (DataW H × List MemPlace)) (n : Nat), x.1 = .agg (xs.map (·.1)) ∧ cs.length = P.cellsOf t ∧ xs.length = m ∧ ∀ i, i < m → DataW.trod enc P w 0 sp held n e ((cs.drop (i * P.cellsOf e)).take (P.cellsOf e)) = xs[i]? := by
  cases fuel with
  | zero => simp [DataW.trod] at h
  | succ n =>
    unfold DataW.trod at h
    rw [ht] at h
    split at h <;> simp_all
    obtain ⟨hl, xs, hp, hd⟩ := h
    exact ⟨xs, by rw [← hd], by simpa using mapM_some_length hp, n, fun i hi => mapM_some_get hp i i (by simp [hi])⟩

theorem ints_of {k : IntKind} : ∀ (cs : List Value), (∀ i, i < cs.length → ∃ n : Int, cs[i]? = some (.int k n) ∧ (Lit.int k n).wf = true) → ∃ l : List Int, cs = l.map (.int k) ∧ ∀ x ∈ l, (Lit.int k x).wf = true
  | [], _ => ⟨[], rfl, fun x h => (by cases h)⟩
  | v :: cs, h => by
    obtain ⟨n, h1, h2⟩ := h 0 (by simp)
    simp at h1
    subst h1
    obtain ⟨l, rfl, h3⟩ := ints_of cs fun i hi => by simpa using h (i + 1) (by simpa using hi)
    refine ⟨n :: l, rfl, fun x hx => ?_⟩
    rcases List.mem_cons.1 hx with rfl | hx
    · exact h2
    · exact h3 x hx

theorem open_cr (B : BulkLaw bk ba) : ∀ (m : Nat) {u : Ty} {t : TypeId} {fuel : Nat} {cs : List Value} {x : DataW H × List MemPlace}, tyFits P m u t = true → (∀ z ∈ DataW.weights P t x.1, z ≤ reachBytes) → DataW.trod enc P w 0 sp held fuel t cs = some x → ∃ d : Den u, CR w (inHeap w) u d cs ∧ Wf u d ∧ bd u d ≤ bk x.1
  | 0, _, _, _, _, _, h, _, _ => by cases h
  | m + 1, u, t, fuel, cs, x, h, hz, hx => by
    unfold tyFits at h
    split at h
    · rename_i hu
      obtain ⟨b, rfl, _⟩ := DataW.trod_bool hu hx
      exact ⟨b, rfl, trivial, B.one _⟩
    · rename_i k k' hu
      simp only [decide_eq_true_eq] at h
      subst h
      obtain ⟨n, rfl, _, hw⟩ := DataW.trod_int hu hx
      exact ⟨n, rfl, hw, B.one _⟩
    · rename_i hu
      obtain ⟨s, rfl, rfl, hs⟩ := DataW.trod_string hu hx
      exact ⟨s, rfl, by show ByteArray.size s ≤ reachBytes; simpa using hz s.data.toList.length (by simp [DataW.weights]), by have := B.st s.data.toList; rw [Array.length_toList] at this; exact this⟩
    · rename_i e v hu
      simp only [Bool.and_eq_true] at h
      obtain ⟨⟨⟨h1, h2⟩, h3⟩, h4⟩ := h
      have h2 := Nat.eq_of_beq_eq_true h2
      have h3 : 1 ≤ v.size := by simpa using h3
      have h4 : v.by_ ≤ P.bytesOf e := by simpa using h4
      rcases DataW.trod_slice hu hx with ⟨rfl, _⟩ | ⟨a, len, cap, elems, rest, n, rfl, rfl, rfl, hb, hl, hm, hlen, hel, _, _⟩
      · exact ⟨[], ⟨_, rfl, none, 0, rfl, Nat.le_refl _, fun hne => absurd rfl hne⟩, ⟨by simp [Nat.zero_le], fun x hx => (by cases hx)⟩, B.one _⟩
      · have hw0 : ∀ d ∈ elems.map (·.1), ∀ z ∈ DataW.weights P e d, z ≤ reachBytes := fun d hd z hz' => hz z (by
          simp only [DataW.weights, hu, List.mem_cons, List.mem_append]
          exact .inr (.inl (weights_mem hz' hd)))
        have each : ∀ i, i < len → ∃ (d : Den v) (r : List Value), CR w (inHeap w) v d r ∧ (Wf v d ∧ bd v d ≤ bk ((elems.map (·.1)).getD i .nil)) ∧ r.length = v.size ∧ ∀ j, j < v.size → w.cell? ((a.add (i * v.size)).add j) = r[j]? := by
          intro i hi
          have := hel i hi
          rw [List.getElem?_eq_getElem (by omega), h2] at this
          obtain ⟨r, hr, ht⟩ := Option.bind_eq_some_iff.1 this
          obtain ⟨_, hrl, hrc⟩ := World.cells?_some hr
          obtain ⟨d, c1, w1, b1⟩ := open_cr B m h1 (hw0 _ (List.mem_map_of_mem (List.getElem_mem (by omega)))) ht
          exact ⟨d, r, c1, ⟨w1, by rw [List.getD_eq_getElem?_getD, List.getElem?_map, List.getElem?_eq_getElem (by omega)]; exact b1⟩, hrl, hrc⟩
        obtain ⟨l, us, e1, e2, e3, e4, e5, e6⟩ := rows_listB (B := fun i => bk ((elems.map (·.1)).getD i .nil)) len each
        refine ⟨l, ⟨_, rfl, some a, cap, by rw [e1], by omega, fun hne => ⟨a, us, rfl, ?_, e2, e5⟩⟩, ⟨?_, e3⟩, ?_⟩
        rotate_left
        · have := hz ((elems.length + rest.length) * P.bytesOf e) (by simp [DataW.weights, hu])
          have k1 : l.length * v.by_ ≤ (elems.length + rest.length) * P.bytesOf e := Nat.mul_le_mul (by omega) h4
          exact Nat.le_trans k1 this
        · have k1 := B.sum (elems.map (·.1))
          rw [List.length_map, show elems.length = len by omega] at k1
          have k2 := B.sl (elems.map (·.1)) (rest.map (·.1))
          simp only [bd]
          exact Nat.le_trans (Nat.succ_le_succ (Nat.le_trans e6 k1)) k2
        have hlen0 : 0 < len := by
          rw [← e1]
          exact List.length_pos_iff.2 hne
        have := hel 0 hlen0
        rw [List.getElem?_eq_getElem (by omega), h2] at this
        obtain ⟨r, hr, _⟩ := Option.bind_eq_some_iff.1 this
        have hb := World.cells?_block hr (by omega)
        have hbl : (a.add (0 * v.size)).block = a.block := by unfold Addr.add; split <;> rfl
        rw [hbl] at hb
        exact hb
    · rename_i u F hu
      rw [Bool.and_eq_true] at h
      obtain ⟨xs, n, rfl, rfl, hl, hxl, hf⟩ := DataW.trod_struct hu hx
      have hz' : ∀ z ∈ DataW.weightsEach P (F.toList.map (·.type)) (xs.map (·.1)), z ≤ reachBytes := fun z h => hz z (by simp only [DataW.weights, hu]; exact h)
      have h2 := Nat.eq_of_beq_eq_true h.2
      have := fits_struct B (g := tyFits P m) (fun h1 h2 h3 => open_cr B m h1 h2 h3) F.toList _ 0 cs xs h.1 (by omega) (by simpa using hxl) hz' fun i f hi => hf i f (by rw [← Array.getElem?_toList]; exact hi)
      obtain ⟨d, c1, w1, b1⟩ := this
      exact ⟨d, by simpa using c1, w1, Nat.le_trans b1 (B.ag _)⟩
    · rename_i hu
      split at h
      · rename_i k' he
        simp only [Bool.and_eq_true, decide_eq_true_eq] at h
        obtain ⟨⟨⟨rfl, h2⟩, h3⟩, h4⟩ := h
        have h2 := Nat.eq_of_beq_eq_true h2
        have h3 := Nat.eq_of_beq_eq_true h3
        have h4 := Nat.eq_of_beq_eq_true h4
        obtain ⟨xs, n, hx1, hl, hxl, hf⟩ := trod_array hu hx
        obtain ⟨l, rfl, hw⟩ := ints_of cs fun i hi => by
          have := hf i (by omega)
          rw [h3, List.getElem?_eq_getElem (by omega)] at this
          obtain ⟨z, hz, _, hwz⟩ := DataW.trod_int he this
          refine ⟨z, ?_, hwz⟩
          have := congrArg (·[0]?) hz
          simpa [List.getElem?_take] using this
        exact ⟨l, ⟨by simp at hl; omega, rfl⟩, ⟨by simp at hl; omega, hw⟩, by rw [hx1]; have k := B.len (xs.map (·.1)); rw [List.length_map] at k; simp only [bd]; have k2 := B.ag (xs.map (·.1)); omega⟩
      · cases h
    · cases h
end

end Go.Fw

/- The picture as plain functions: what is seen at a position, and many cycles. -/
namespace Go.Proofs.YtofgbclopbmlcaaGreat
open Go.Fw
set_option linter.unusedVariables false
set_option linter.unusedSimpArgs false

abbrev bA (m : List Int) (i : Nat) : Int := m.getD i 0
def u8s (m : List Int) : Prop := ∀ x ∈ m, 0 ≤ x ∧ x < 256
instance (m : List Int) : Decidable (u8s m) := by unfold u8s; exact inferInstance
theorem u8s_get {m : List Int} (h : u8s m) (i : Nat) : 0 ≤ bA m i ∧ bA m i < 256 := by
  unfold bA
  rw [List.getD_eq_getElem?_getD]
  cases hi : m[i]? with
  | none => exact ⟨by decide, by decide⟩
  | some x => exact h x (List.mem_of_getElem? hi)
def visB (pos : Int) : Bool := decide (pos % 64 < 48) && decide (pos / 64 < 32)
def cellF (m : List Int) (pos : Int) : Int := bA m (8 + pos / 64 / 8 * 6 + pos % 64 / 8).toNat % 16
def spriteB (m : List Int) (pos : Int) : Bool :=
  (decide (bA m 1 ≤ pos % 64) && decide (pos % 64 < bA m 1 + 8)) && ((decide (bA m 2 ≤ pos / 64) && decide (pos / 64 < bA m 2 + 8)) && decide (bA m 4 / 2 ^ (7 - (pos % 64 - bA m 1)).toNat % 2 = 1))
def colorF (m : List Int) (pos : Int) : Int := if visB pos = true then (if spriteB m pos = true then bA m 3 % 16 else cellF m pos) else bA m 0 % 16
def vP (N : List Int) : Int := if N.length = 0 then 2559 else N.getD 0 0 % 2560
abbrev vH (N : List Int) : Int := N.getD 1 0 % 2
def vM (M : List Int) : List Int := over (List.replicate 32 0) M 0
theorem vP_in (N : List Int) : 0 ≤ vP N ∧ vP N < 2560 := by unfold vP; split <;> omega
theorem vM_len (M : List Int) : (vM M).length = 32 := by unfold vM; rw [over_length]; rfl
theorem vM_u8 {M : List Int} (h : u8s M) : u8s (vM M) := by
  intro x hx
  have : ∀ (l : List Int) (i : Nat), (∀ y ∈ l, 0 ≤ y ∧ y < 256) → ∀ y ∈ over l M i, 0 ≤ y ∧ y < 256 := by
    intro l
    induction l with
    | nil => intro i _ y hy; cases hy
    | cons d l ih =>
      intro i hl y hy
      rcases List.mem_cons.1 hy with rfl | hy
      · rw [List.getD_eq_getElem?_getD]
        cases hi : M[i]? with
        | none => exact hl d (List.mem_cons_self)
        | some z => exact h z (List.mem_of_getElem? hi)
      · exact ih (i + 1) (fun y hy => hl y (List.mem_cons_of_mem _ hy)) y hy
  exact this _ 0 (fun y hy => by rw [List.eq_of_mem_replicate hy]; decide) x hx
theorem cell_at {pos : Int} (hp0 : 0 ≤ pos) (hp1 : pos < 2560) : IntKind.i64.wrap (IntKind.i64.wrap (8 + IntKind.i64.wrap (IntKind.i64.wrap (Int.tdiv (IntKind.i64.wrap (Int.tdiv pos 64)) 8) * 6)) + IntKind.i64.wrap (Int.tdiv (Int.tmod pos 64) 8)) = 8 + pos / 64 / 8 * 6 + pos % 64 / 8 := by
  have eq64 : IntKind.i64.wrap (Int.tdiv pos 64) = pos / 64 := by rw [Int.tdiv_eq_ediv_of_nonneg hp0, w64 (by omega) (by omega)]
  have er64 : Int.tmod pos 64 = pos % 64 := Int.tmod_eq_emod_of_nonneg hp0
  rw [eq64, er64, Int.tdiv_eq_ediv_of_nonneg (show 0 ≤ pos / 64 by omega), Int.tdiv_eq_ediv_of_nonneg (show 0 ≤ pos % 64 by omega), w64 (x := pos / 64 / 8) (by omega) (by omega), w64 (x := pos / 64 / 8 * 6) (by omega) (by omega),
    w64 (x := 8 + pos / 64 / 8 * 6) (by omega) (by omega), w64 (x := pos % 64 / 8) (by omega) (by omega), w64 (by omega) (by omega)]
end Go.Proofs.YtofgbclopbmlcaaGreat

/- The chip that reads and writes disks as plain functions: cycles. -/
namespace Go.Proofs.YtofgbclopbmlcaaGreat
open Go.Fw
set_option linter.unusedVariables false
set_option linter.unusedSimpArgs false

abbrev DS := List Int × List Int
inductive dOk (q : Nat) : List Int → Prop
  | mk {k t c s i l d r o x : Int} (hk : 0 ≤ k ∧ k ≤ q ∧ k < 256) (ht : 0 ≤ t ∧ t < 4) (hc : 0 ≤ c ∧ c ≤ 4) (hs : 0 ≤ s ∧ s < 4) (hi : 0 ≤ i ∧ i < 16) (hl : 0 ≤ l ∧ l < 64) (hd : 0 ≤ d ∧ d < 256) (hr : 0 ≤ r ∧ r < 2) (ho : 0 ≤ o ∧ o < 2) (hx : 0 ≤ x ∧ x < 2) : dOk q [k, t, c, s, i, l, d, r, o, x]
theorem dOk.len {q : Nat} {l : List Int} (h : dOk q l) : l.length = 10 := by cases h; rfl
structure DOk (q : Nat) (s : DS) : Prop where
  n : dOk q s.1
  m : s.2.length = q * 256
  u : u8s s.2
end Go.Proofs.YtofgbclopbmlcaaGreat









/- The chip that draws: its state, cycles, registers. -/
namespace Go.Proofs.YtofgbclopbmlcaaGreat
open Go.Fw
set_option linter.unusedVariables false
set_option linter.unusedSimpArgs false
set_option maxRecDepth 100000

abbrev devM : AV := .agg [.own 0, .own 1]
theorem tup_v {a b c d : Int} (h1 : a = c) (h2 : b = d) : AV.tup [I1 a, I1 b, .c (.own 0)] = AV.tup [I1 c, I1 d, .c (.own 0)] := by rw [h1, h2]
theorem blk_v {l l' m m' : List Int} (h : l = l') (h2 : m = m') : [some (Blk.arr (.int .i64) l), some (Blk.arr (.int .u8) m)] = [some (Blk.arr (.int .i64) l'), some (Blk.arr (.int .u8) m')] := by rw [h, h2]
theorem wrap8 {x : Int} (h0 : 0 ≤ x) (h1 : x < 256) : IntKind.u8.wrap x = x := by
  show x % 256 = x
  omega
theorem tup_rv {x y : Int} (h2 : x = y) : AV.tup [.agg [.own 0, .own 1], I1 x] = AV.tup [.agg [.own 0, .own 1], I1 y] := by rw [h2]
def vfitS : PSpec := ⟨[gD], fun (d, _) => (none, .tup [I1 (vP d.1), I1 (vH d.1), .c (.own 0)], [.arr (.int .u8) (vM d.2)])⟩
theorem vfit_ok : GoodF Tryz.prog 223 vfitS.spec := by
  have hT := tab_ok (fs := [(94, lowM.spec)]) tree_ok
  have hP : SpecsOk Tryz.prog (tab tree [(94, lowM.spec)]) := specs_cons lowM_ok specs_nil
  refine vfitS.good (fn := Tryz.f223) hT hP Tryz.func223 (by kernel_rfl) rfl fun (d : Dv) _ => ?_
  obtain ⟨N, M⟩ := d
  repeat' first
    | (refine Go.mk ?_; conv => whnf)
    | refine Need.go ?_ ?_
    | refine NilG.go (fun _ => ?_) (fun _ => ?_)
    | refine Br.dec (fun _ => ?_) (fun _ => ?_)
    | refine Br.go (fun _ => ?_) (fun _ => ?_)
    | refine draw_go hT hP mixed ?_
    | refine round_go hT hP ?_
  all_goals first
    | exact of_decide_eq_true rfl
    | (rename_i h
       have h : (N.length : Int) > 0 := h
       show (0 : Int) ≤ 0 ∧ (0 : Int) < N.length
       omega)
    | (rename_i h
       have h : (N.length : Int) > 1 := h
       show (0 : Int) ≤ 1 ∧ (1 : Int) < N.length
       omega)
    | (rename_i h2 h
       have h : (N.length : Int) > 1 := h
       have h2 : ¬ (N.length : Int) > 0 := h2
       exfalso; omega)
    | skip
  · rename_i h2 h
    have h2 : (N.length : Int) > 0 := h2
    refine .mk [] [1] _ rfl rfl rfl rfl rfl rfl (tup_v ?_ ?_)
    · show Int.tmod (IntKind.i64.wrap (Int.tmod (N.getD 0 0) 2560 + 2560)) 2560 = vP N
      rw [mod_eq _ (by omega) (by omega), vP, if_neg (by omega)]
    · exact rfl
  · rename_i h2 h
    have h2 : (N.length : Int) > 0 := h2
    have h : ¬ (N.length : Int) > 1 := h
    have e : N.getD 1 0 = 0 := by simp only [List.getD_eq_getElem?_getD]; rw [List.getElem?_eq_none (by omega)]; rfl
    refine .mk [] [1] _ rfl rfl rfl rfl rfl rfl (tup_v ?_ ?_)
    · show Int.tmod (IntKind.i64.wrap (Int.tmod (N.getD 0 0) 2560 + 2560)) 2560 = vP N
      rw [mod_eq _ (by omega) (by omega), vP, if_neg (by omega)]
    · show 0 = N.getD 1 0 % 2
      rw [e]; rfl
  · rename_i h2 h
    have h2 : ¬ (N.length : Int) > 0 := h2
    have e : N.getD 1 0 = 0 := by simp only [List.getD_eq_getElem?_getD]; rw [List.getElem?_eq_none (by omega)]; rfl
    refine .mk [] [1] _ rfl rfl rfl rfl rfl rfl (tup_v ?_ ?_)
    · show 2559 = vP N
      rw [vP, if_pos (by omega)]
    · show 0 = N.getD 1 0 % 2
      rw [e]; rfl

def vmadeS : WSpec := ⟨Int × Int × List Int, fun x => [.c (iv .i64 x.1), .c (iv .i64 x.2.1), .c (.own 0)], fun x => [.arr (.int .u8) x.2.2],
  fun a b => (match a, b with | [.c (.imm (.int .i64 p)), .c (.imm (.int .i64 h)), .c (.own 0)], [.arr (.int .u8) m] => some (p, h, m) | _, _ => none),
  fun x => (none, .agg [.own 1, .own 0], [some (.arr (.int .u8) x.2.2)], [.arr (.int .i64) [x.1, x.2.1]])⟩
theorem vmade_ok : GoodF Tryz.prog 198 vmadeS.spec := by
  have hT := tab_ok (fs := []) tree_ok
  have hP : SpecsOk Tryz.prog (tab tree []) := specs_nil
  refine vmadeS.good (fn := Tryz.f198) hT hP Tryz.func198 (by kernel_rfl) rfl ?_ fun ((p, h, m) : Int × Int × List Int) _ => ?_
  · intro a b x h
    simp only [vmadeS] at h
    split at h
    · injection h with h; subst h; exact ⟨rfl, rfl⟩
    · cases h
  repeat' first
    | (refine Go.mk ?_; conv => whnf)
    | refine Need.go ?_ ?_
    | refine NilG.go (fun _ => ?_) (fun _ => ?_)
    | refine Br.dec (fun _ => ?_) (fun _ => ?_)
    | refine Br.go (fun _ => ?_) (fun _ => ?_)
    | refine draw_go hT hP mixed ?_
    | refine round_go hT hP ?_
  all_goals first
    | exact of_decide_eq_true rfl
    | exact .mk [] [0, 2] _ rfl rfl rfl rfl rfl rfl rfl

def vnewS : PSpec := ⟨[], fun _ => (none, devM, [.arr (.int .i64) [2559, 0], .arr (.int .u8) (List.replicate 32 0)])⟩
theorem vnew_ok : GoodF Tryz.prog 113 vnewS.spec := by
  have hT := tab_ok (fs := [(198, vmadeS.spec)]) tree_ok
  have hP : SpecsOk Tryz.prog (tab tree [(198, vmadeS.spec)]) := specs_cons vmade_ok specs_nil
  refine vnewS.good (fn := Tryz.f113) hT hP Tryz.func113 (by kernel_rfl) rfl fun _ => ?_
  repeat' first
    | (refine Go.mk ?_; conv => whnf)
    | refine Need.go ?_ ?_
    | refine NilG.go (fun _ => ?_) (fun _ => ?_)
    | refine Br.dec (fun _ => ?_) (fun _ => ?_)
    | refine Br.go (fun _ => ?_) (fun _ => ?_)
    | refine draw_go hT hP mixed ?_
    | refine round_go hT hP ?_
  all_goals first
    | exact of_decide_eq_true rfl
    | exact .mk [] [2, 1] _ rfl rfl rfl rfl rfl rfl rfl
    | skip

def vwM (m : List Int) (a k : Int) : List Int := if (0 ≤ a ∧ a < 32) ∧ (a < 5 ∨ a > 7) then m.set a.toNat (k % 256) else m
def vwriteS : PSpec := ⟨[gD, gi, gi], fun (d, a, k, _) => (none, devM, [.arr (.int .i64) [vP d.1, vH d.1], .arr (.int .u8) (vwM (vM d.2) a k)])⟩
theorem vwrite_ok : GoodF Tryz.prog 183 vwriteS.spec := by
  have hT := tab_ok (fs := [(198, vmadeS.spec), (223, vfitS.spec), (94, lowM.spec)]) tree_ok
  have hP : SpecsOk Tryz.prog (tab tree [(198, vmadeS.spec), (223, vfitS.spec), (94, lowM.spec)]) := specs_cons vmade_ok (specs_cons vfit_ok (specs_cons lowM_ok specs_nil))
  refine vwriteS.good (fn := Tryz.f183) hT hP Tryz.func183 (by kernel_rfl) rfl fun (d : Dv) (a k : Int) _ => ?_
  obtain ⟨N, M⟩ := d
  repeat' first
    | (refine Go.mk ?_; conv => whnf)
    | refine Need.go ?_ ?_
    | refine NilG.go (fun _ => ?_) (fun _ => ?_)
    | refine Br.dec (fun _ => ?_) (fun _ => ?_)
    | refine Br.go (fun _ => ?_) (fun _ => ?_)
    | refine draw_go hT hP mixed ?_
    | refine round_go hT hP ?_
  all_goals first
    | exact of_decide_eq_true rfl
    | skip
  · show 0 ≤ a ∧ a < (vM M).length
    rw [vM_len]; omega
  · show a.toNat < (vM M).length
    rw [vM_len]; omega
  · refine .mk [] [3, 2] _ rfl rfl rfl rfl rfl (blk_v (l := [vP N, vH N]) (m := (vM M).set a.toNat (IntKind.u8.wrap (k % 2 ^ (8 : Int).toNat))) rfl ?_) rfl
    show _ = vwM (vM M) a k
    have e : IntKind.u8.wrap (k % 2 ^ (8 : Int).toNat) = k % 256 := wrap8 (by show 0 ≤ k % 256; omega) (by show k % 256 < 256; omega)
    rw [vwM, if_pos ⟨⟨by omega, by omega⟩, by omega⟩, e]
  · show 0 ≤ a ∧ a < (vM M).length
    rw [vM_len]; omega
  · show a.toNat < (vM M).length
    rw [vM_len]; omega
  · refine .mk [] [3, 2] _ rfl rfl rfl rfl rfl (blk_v (l := [vP N, vH N]) (m := (vM M).set a.toNat (IntKind.u8.wrap (k % 2 ^ (8 : Int).toNat))) rfl ?_) rfl
    show _ = vwM (vM M) a k
    have e : IntKind.u8.wrap (k % 2 ^ (8 : Int).toNat) = k % 256 := wrap8 (by show 0 ≤ k % 256; omega) (by show k % 256 < 256; omega)
    rw [vwM, if_pos ⟨⟨by omega, by omega⟩, by omega⟩, e]
  · refine .mk [] [3, 2] _ rfl rfl rfl rfl rfl (blk_v (l := [vP N, vH N]) (m := vM M) rfl ?_) rfl
    show _ = vwM (vM M) a k
    rw [vwM, if_neg (fun e => by omega)]
  · refine .mk [] [3, 2] _ rfl rfl rfl rfl rfl (blk_v (l := [vP N, vH N]) (m := vM M) rfl ?_) rfl
    show _ = vwM (vM M) a k
    rw [vwM, if_neg (fun e => by omega)]
  · refine .mk [] [3, 2] _ rfl rfl rfl rfl rfl (blk_v (l := [vP N, vH N]) (m := vM M) rfl ?_) rfl
    show _ = vwM (vM M) a k
    rw [vwM, if_neg (fun e => by omega)]

def vrF (N m : List Int) (a : Int) : Int := if a = 5 then vP N / 64 else if a = 6 then vP N % 64 else if a = 7 then vH N else if 0 ≤ a ∧ a < 32 then bA m a.toNat else 0
def vrN (N : List Int) (a : Int) : List Int := [vP N, if a = 7 then 0 else vH N]
def vreadS : PSpec := ⟨[gD, gi], fun (d, a, _) => (some (u8s d.2), .tup [.agg [.own 0, .own 1], I1 (vrF d.1 (vM d.2) a)], [.arr (.int .i64) (vrN d.1 a), .arr (.int .u8) (vM d.2)])⟩
theorem vread_ok : GoodF Tryz.prog 176 vreadS.spec := by
  have hT := tab_ok (fs := [(198, vmadeS.spec), (223, vfitS.spec)]) tree_ok
  have hP : SpecsOk Tryz.prog (tab tree [(198, vmadeS.spec), (223, vfitS.spec)]) := specs_cons vmade_ok (specs_cons vfit_ok specs_nil)
  refine vreadS.good (fn := Tryz.f176) hT hP Tryz.func176 (by kernel_rfl) rfl fun (d : Dv) (a : Int) hp => ?_
  obtain ⟨N, M⟩ := d
  have hu : u8s M := hp _ rfl
  have hP0 := vP_in N
  repeat' first
    | (refine Go.mk ?_; conv => whnf)
    | refine Need.go ?_ ?_
    | refine NilG.go (fun _ => ?_) (fun _ => ?_)
    | refine Br.dec (fun _ => ?_) (fun _ => ?_)
    | refine Br.go (fun _ => ?_) (fun _ => ?_)
    | refine draw_go hT hP mixed ?_
    | refine round_go hT hP ?_
  all_goals first
    | exact of_decide_eq_true rfl
    | (show 0 ≤ a ∧ a < (vM M).length
       rw [vM_len]; omega)
    | (show a.toNat < (vM M).length
       rw [vM_len]; omega)
    | skip
  · rename_i h
    have h : a = 5 := h
    refine .mk [] [3, 2] _ rfl rfl rfl rfl rfl (blk_v (l := [vP N, vH N]) (m := vM M) ?_ rfl) (tup_rv ?_)
    · show _ = vrN N a
      rw [vrN, if_neg (by omega)]
    · show IntKind.i64.wrap (Int.tdiv (vP N) 64) = vrF N (vM M) a
      rw [vrF, if_pos h, Int.tdiv_eq_ediv_of_nonneg hP0.1, w64 (by omega) (by omega)]
  · rename_i h0 h
    have h : a = 6 := h
    refine .mk [] [3, 2] _ rfl rfl rfl rfl rfl (blk_v (l := [vP N, vH N]) (m := vM M) ?_ rfl) (tup_rv ?_)
    · show _ = vrN N a
      rw [vrN, if_neg (by omega)]
    · show Int.tmod (vP N) 64 = vrF N (vM M) a
      rw [vrF, if_neg h0, if_pos h, Int.tmod_eq_emod_of_nonneg hP0.1]
  · rename_i h0 h1 h
    have h : a = 7 := h
    refine .mk [] [3, 2] _ rfl rfl rfl rfl rfl (blk_v (l := [vP N, 0]) (m := vM M) ?_ rfl) (tup_rv ?_)
    · show _ = vrN N a
      rw [vrN, if_pos h]
    · show vH N = vrF N (vM M) a
      rw [vrF, if_neg h0, if_neg h1, if_pos h]
  · rename_i h0 h1 h2 h3 h4
    have hb := u8s_get (vM_u8 hu) a.toNat
    refine .mk [] [3, 2] _ rfl rfl rfl rfl rfl (blk_v (l := [vP N, vH N]) (m := vM M) ?_ rfl) (tup_rv ?_)
    · show _ = vrN N a
      rw [vrN, if_neg h2]
    · show IntKind.i64.wrap (bA (vM M) a.toNat) = vrF N (vM M) a
      rw [vrF, if_neg h0, if_neg h1, if_neg h2, if_pos ⟨h3, h4⟩, w64 (by omega) (by omega)]
  · rename_i h0 h1 h2 h3 h4
    refine .mk [] [3, 2] _ rfl rfl rfl rfl rfl (blk_v (l := [vP N, vH N]) (m := vM M) ?_ rfl) (tup_rv ?_)
    · show _ = vrN N a
      rw [vrN, if_neg h2]
    · show 0 = vrF N (vM M) a
      rw [vrF, if_neg h0, if_neg h1, if_neg h2, if_neg (fun e => h4 e.2)]
  · rename_i h0 h1 h2 h3
    refine .mk [] [3, 2] _ rfl rfl rfl rfl rfl (blk_v (l := [vP N, vH N]) (m := vM M) ?_ rfl) (tup_rv ?_)
    · show _ = vrN N a
      rw [vrN, if_neg h2]
    · show 0 = vrF N (vM M) a
      rw [vrF, if_neg h0, if_neg h1, if_neg h2, if_neg (fun e => h3 e.1)]

end Go.Proofs.YtofgbclopbmlcaaGreat

/- The memories: windows, banks, how many bytes there are; their states in form. -/
namespace Go.Proofs.YtofgbclopbmlcaaGreat
open Go.Fw
set_option linter.unusedVariables false
set_option linter.unusedSimpArgs false
set_option linter.constructorNameAsVariable false
set_option maxRecDepth 100000

def i64 (x : Int) : Prop := -9223372036854775808 ≤ x ∧ x ≤ 9223372036854775807
def cP (c : Cv) : Prop := i64 c.2.2.1 ∧ i64 c.2.2.2.1 ∧ List.length c.2.2.2.2 ≤ 140737488351232
def dP (d : Dv) : Prop := List.length d.2 ≤ 140737488355328 ∧ u8s d.2
def winI (c : Cv) : Int := max 1 (min (max c.2.2.2.1 1) 4097 - 1)
theorem winI_in (c : Cv) : 1 ≤ winI c ∧ winI c ≤ 4096 := by unfold winI; omega
def bankI (c : Cv) : Int := max 1 (((List.length c.2.2.2.2 : Nat) + winI c - 1) / winI c)
theorem bankI_in {c : Cv} (h : List.length c.2.2.2.2 ≤ 140737488351232) : 1 ≤ bankI c ∧ bankI c ≤ 140737488355328 ∧ bankI c * winI c ≤ 140737488355328 := by
  obtain ⟨h1, h2⟩ := winI_in c
  have h3 : ((List.length c.2.2.2.2 : Nat) + winI c - 1) / winI c * winI c ≤ (List.length c.2.2.2.2 : Nat) + winI c - 1 := Int.ediv_mul_le _ (by omega)
  have h4 : ((List.length c.2.2.2.2 : Nat) + winI c - 1) / winI c ≤ (List.length c.2.2.2.2 : Nat) + winI c - 1 := Int.ediv_le_self _ (by omega)
  unfold bankI
  rcases Int.le_total 1 (((List.length c.2.2.2.2 : Nat) + winI c - 1) / winI c) with h | h
  · rw [Int.max_eq_right h]
    omega
  · rw [Int.max_eq_left h]
    omega
def bytesI (c : Cv) : Int := if c.2.1 = 2 then bankI c * winI c else max 0 (min c.2.2.2.1 65536)
theorem bytesI_in {c : Cv} (h : List.length c.2.2.2.2 ≤ 140737488351232) : 0 ≤ bytesI c ∧ bytesI c ≤ 140737488355328 := by
  obtain ⟨h1, h2, h3⟩ := bankI_in h
  obtain ⟨h4, h5⟩ := winI_in c
  have h6 : 0 ≤ bankI c * winI c := Int.mul_nonneg (by omega) (by omega)
  unfold bytesI
  split
  · omega
  · omega
def memM (c : Cv) (M : List Int) : List Int := over (List.replicate (bytesI c).toNat 0) M 0
def memN (c : Cv) (N : List Int) : List Int := if c.2.1 = 2 then [N.getD 0 0 % bankI c] else []
theorem memM_len (c : Cv) (M : List Int) : (memM c M).length = (bytesI c).toNat := by
  unfold memM; rw [over_length, List.length_replicate]

def windowS : PSpec := ⟨[gC], fun (c, _) => (none, I (winI c), [])⟩
theorem window_ok : GoodF Tryz.prog 197 windowS.spec := by
  have hT := tab_ok (fs := []) tree_ok
  have hP : SpecsOk Tryz.prog (tab tree []) := specs_nil
  refine windowS.good (fn := Tryz.f197) hT hP Tryz.func197 (by kernel_rfl) rfl fun (c : Cv) _ => ?_
  obtain ⟨cn, ck, cb, cs, cd⟩ := c
  repeat' first
    | (refine Go.mk ?_; conv => whnf)
    | refine Need.go ?_ ?_
    | refine NilG.go (fun _ => ?_) (fun _ => ?_)
    | refine Br.dec (fun _ => ?_) (fun _ => ?_)
    | refine Br.go (fun _ => ?_) (fun _ => ?_)
    | refine draw_go hT hP mixed ?_
    | refine round_go hT hP ?_
  refine .mk [] [] _ rfl rfl rfl rfl rfl rfl (imm_int ?_)
  show imax 1 (IntKind.i64.wrap (imin (imax cs 1) 4097 - 1)) = max 1 (min (max cs 1) 4097 - 1)
  rw [imax_eq, imin_eq, imax_eq, w64 (by omega) (by omega)]

def cBanksS : PSpec := ⟨[gC], fun (c, _) => (some (List.length c.2.2.2.2 ≤ 140737488351232), I (bankI c), [])⟩
theorem cBanks_ok : GoodF Tryz.prog 196 cBanksS.spec := by
  have hT := tab_ok (fs := [(197, windowS.spec)]) tree_ok
  have hP : SpecsOk Tryz.prog (tab tree [(197, windowS.spec)]) := specs_cons window_ok specs_nil
  refine cBanksS.good (fn := Tryz.f196) hT hP Tryz.func196 (by kernel_rfl) rfl fun (c : Cv) hp => ?_
  have hl : List.length c.2.2.2.2 ≤ 140737488351232 := hp _ rfl
  obtain ⟨h1, h2⟩ := winI_in c
  obtain ⟨cn, ck, cb, cs, cd⟩ := c
  have hl : cd.length ≤ 140737488351232 := hl
  clear hp
  repeat' first
    | (refine Go.mk ?_; conv => whnf)
    | refine Need.go ?_ ?_
    | refine NilG.go (fun _ => ?_) (fun _ => ?_)
    | refine Br.dec (fun _ => ?_) (fun _ => ?_)
    | refine Br.go (fun _ => ?_) (fun _ => ?_)
    | refine draw_go hT hP mixed ?_
    | refine round_go hT hP ?_
  all_goals first
    | (show winI (cn, ck, cb, cs, cd) ≠ 0
       omega)
    | skip
  refine .mk [] [] _ rfl rfl rfl rfl rfl rfl (imm_int ?_)
  show imax 1 (IntKind.i64.wrap (Int.tdiv (IntKind.i64.wrap (IntKind.i64.wrap ((cd.length : Int) + winI (cn, ck, cb, cs, cd)) - 1)) (winI (cn, ck, cb, cs, cd)))) = bankI (cn, ck, cb, cs, cd)
  have h4 : ((cd.length : Int) + winI (cn, ck, cb, cs, cd) - 1) / winI (cn, ck, cb, cs, cd) ≤ (cd.length : Int) + winI (cn, ck, cb, cs, cd) - 1 := Int.ediv_le_self _ (by omega)
  have h5 : 0 ≤ ((cd.length : Int) + winI (cn, ck, cb, cs, cd) - 1) / winI (cn, ck, cb, cs, cd) := Int.ediv_nonneg (by omega) (by omega)
  rw [w64 (x := (cd.length : Int) + winI (cn, ck, cb, cs, cd)) (by omega) (by omega), w64 (x := (cd.length : Int) + winI (cn, ck, cb, cs, cd) - 1) (by omega) (by omega), Int.tdiv_eq_ediv_of_nonneg (by omega), w64 (by omega) (by omega), imax_eq]
  rfl

def cBytesS : PSpec := ⟨[gC], fun (c, _) => (some (List.length c.2.2.2.2 ≤ 140737488351232), I (bytesI c), [])⟩
theorem cBytes_ok : GoodF Tryz.prog 109 cBytesS.spec := by
  have hT := tab_ok (fs := [(197, windowS.spec), (196, cBanksS.spec)]) tree_ok
  have hP : SpecsOk Tryz.prog (tab tree [(197, windowS.spec), (196, cBanksS.spec)]) := specs_cons window_ok (specs_cons cBanks_ok specs_nil)
  refine cBytesS.good (fn := Tryz.f109) hT hP Tryz.func109 (by kernel_rfl) rfl fun (c : Cv) hp => ?_
  have hl : List.length c.2.2.2.2 ≤ 140737488351232 := hp _ rfl
  obtain ⟨h1, h2⟩ := winI_in c
  obtain ⟨h3, h4, h5⟩ := bankI_in hl
  have h6 : 0 ≤ bankI c * winI c := Int.mul_nonneg (by omega) (by omega)
  obtain ⟨cn, ck, cb, cs, cd⟩ := c
  clear hp
  repeat' first
    | (refine Go.mk ?_; conv => whnf)
    | refine Need.go ?_ ?_
    | refine NilG.go (fun _ => ?_) (fun _ => ?_)
    | refine Br.dec (fun _ => ?_) (fun _ => ?_)
    | refine Br.go (fun _ => ?_) (fun _ => ?_)
    | refine draw_go hT hP mixed ?_
    | refine round_go hT hP ?_
  all_goals first
    | exact hl
    | skip
  · rename_i h
    have h : ck = 2 := h
    refine .mk [] [] _ rfl rfl rfl rfl rfl rfl (imm_int ?_)
    show IntKind.i64.wrap (bankI (cn, ck, cb, cs, cd) * winI (cn, ck, cb, cs, cd)) = bytesI (cn, ck, cb, cs, cd)
    rw [w64 (by omega) (by omega), bytesI, if_pos h]
  · rename_i h
    have h : ¬ ck = 2 := h
    refine .mk [] [] _ rfl rfl rfl rfl rfl rfl (imm_int ?_)
    show imax 0 (imin cs 65536) = bytesI (cn, ck, cb, cs, cd)
    rw [imax_eq, imin_eq, bytesI, if_neg h]

/-- the state of a memory -/
def cfitS : PSpec := ⟨[gC, gD], fun (c, d, _) => (some (cP c), devM, [.arr (.int .i64) (memN c d.1), .arr (.int .u8) (memM c d.2)])⟩
theorem cfit_ok : GoodF Tryz.prog 155 cfitS.spec := by
  have hT := tab_ok (fs := [(109, cBytesS.spec), (196, cBanksS.spec)]) tree_ok
  have hP : SpecsOk Tryz.prog (tab tree [(109, cBytesS.spec), (196, cBanksS.spec)]) := specs_cons cBytes_ok (specs_cons cBanks_ok specs_nil)
  refine cfitS.good (fn := Tryz.f155) hT hP Tryz.func155 (by kernel_rfl) rfl fun (c : Cv) (d : Dv) hp => ?_
  obtain ⟨hb, hs, hl⟩ : cP c := hp _ rfl
  obtain ⟨h3, h4, h5⟩ := bankI_in hl
  obtain ⟨h6, h7⟩ := bytesI_in hl
  obtain ⟨N, M⟩ := d
  clear hp
  obtain ⟨cn, ck, cb, cs, cd⟩ := c
  repeat' first
    | (refine Go.mk ?_; conv => whnf)
    | refine Need.go ?_ ?_
    | refine NilG.go (fun _ => ?_) (fun _ => ?_)
    | refine Br.dec (fun _ => ?_) (fun _ => ?_)
    | refine Br.go (fun _ => ?_) (fun _ => ?_)
    | refine draw_go hT hP mixed ?_
    | refine round_go hT hP ?_
  all_goals (try dsimp only [castL_eq] at *)
  all_goals first
    | exact hl
    | exact of_decide_eq_true rfl
    | (show bytesI (cn, ck, cb, cs, cd) = bytesI (cn, ck, cb, cs, cd) ∧ 0 ≤ bytesI (cn, ck, cb, cs, cd) ∧ bytesI (cn, ck, cb, cs, cd) * 1 ≤ 281474976710656 ∧ bytesI (cn, ck, cb, cs, cd) ≤ 281474976710656
       omega)
    | (show (0 : Int) ≤ 0 ∧ (0 : Int) < (N.length : Int)
       omega)
    | (show bankI (cn, ck, cb, cs, cd) ≠ 0
       omega)
    | skip
  · rename_i g1 g2
    refine .mk [] [5, 3] _ rfl rfl rfl rfl rfl (blk2_eq (l' := memN (cn, ck, cb, cs, cd) N) (m' := memM (cn, ck, cb, cs, cd) M) ?_ rfl) rfl
    show [Int.tmod (IntKind.i64.wrap (Int.tmod (N.getD 0 0) (bankI (cn, ck, cb, cs, cd)) + bankI (cn, ck, cb, cs, cd))) (bankI (cn, ck, cb, cs, cd))] = _
    rw [mod_eq _ (by omega) (by omega), memN, if_pos g1]
  · rename_i g1 g2
    refine .mk [] [5, 3] _ rfl rfl rfl rfl rfl (blk2_eq (l := [0]) (l' := memN (cn, ck, cb, cs, cd) N) (m' := memM (cn, ck, cb, cs, cd) M) ?_ rfl) rfl
    obtain rfl : N = [] := List.eq_nil_of_length_eq_zero (by omega)
    rw [memN, if_pos g1]; rfl
  · rename_i g1
    refine .le (Le.nilH 2 (.int .i64) _ _ rfl rfl rfl) (.mk [] [5, 3] _ rfl rfl rfl rfl rfl (blk2_eq (l := []) (l' := memN (cn, ck, cb, cs, cd) N) (m' := memM (cn, ck, cb, cs, cd) M) ?_ rfl) rfl)
    rw [memN, if_neg g1]

end Go.Proofs.YtofgbclopbmlcaaGreat





/- All kinds of chips at once: what each chip's functions give, in blocks of their own. -/
namespace Go.Proofs.YtofgbclopbmlcaaGreat
open Go.Fw
set_option linter.unusedVariables false
set_option linter.unusedSimpArgs false
set_option linter.constructorNameAsVariable false
set_option maxRecDepth 100000

abbrev devM1 : V1 := .agg [.own 0, .own 1]
def tnewOS : PSpec := ⟨[], fun _ => (none, devM, [.arr (.int .i64) [0, 0, 0, 0], .arr (.int .u8) []])⟩
theorem tnewO_ok : GoodF Tryz.prog 110 tnewOS.spec := GoodF.nil (.int .u8) tnew_ok (fun xs hp => ⟨hp, rfl, rfl⟩)
def twriteOS : PSpec := ⟨[gD, gi, gi], fun (d, a, k, _) => (none, devM, [.arr (.int .i64) (twN d.1 a k), .arr (.int .u8) []])⟩
theorem twriteO_ok : GoodF Tryz.prog 180 twriteOS.spec := GoodF.nil (.int .u8) twrite_ok (fun xs hp => ⟨hp, rfl, rfl⟩)
def treadOS : PSpec := ⟨[gD, gi], fun (d, a, _) => (none, .tup [devM1, I1 (trF d.1 a)], [.arr (.int .i64) (trN d.1 a), .arr (.int .u8) []])⟩
theorem treadO_ok : GoodF Tryz.prog 173 treadOS.spec := GoodF.nil (.int .u8) tread_ok (fun xs hp => ⟨hp, rfl, rfl⟩)
def pnewOS : PSpec := ⟨[], fun _ => (none, devM, [.arr (.int .i64) [255, 0, 0], .arr (.int .u8) []])⟩
theorem pnewO_ok : GoodF Tryz.prog 111 pnewOS.spec := GoodF.nil (.int .u8) pnew_ok (fun xs hp => ⟨hp, rfl, rfl⟩)
def pwriteOS : PSpec := ⟨[gD, gi, gi], fun (d, a, k, _) => (none, devM, [.arr (.int .i64) (pwN d.1 a k), .arr (.int .u8) []])⟩
theorem pwriteO_ok : GoodF Tryz.prog 181 pwriteOS.spec := GoodF.nil (.int .u8) pwrite_ok (fun xs hp => ⟨hp, rfl, rfl⟩)
def preadOS : PSpec := ⟨[gD, gi], fun (d, a, _) => (none, .tup [devM1, I1 (preadF d.1 a)], [.arr (.int .i64) (portN d.1), .arr (.int .u8) []])⟩
theorem preadO_ok : GoodF Tryz.prog 174 preadOS.spec := GoodF.nil (.int .u8) pread_ok (fun xs hp => ⟨hp, rfl, rfl⟩)
def snewOS : PSpec := ⟨[], fun _ => (none, devM, [.arr (.int .i64) [0, 0, 0, 0, 0, 0, 0, 0], .arr (.int .u8) []])⟩
theorem snewO_ok : GoodF Tryz.prog 112 snewOS.spec := GoodF.nil (.int .u8) snew_ok (fun xs hp => ⟨hp, rfl, rfl⟩)
def swriteOS : PSpec := ⟨[gD, gi, gi], fun (d, a, k, _) => (none, devM, [.arr (.int .i64) (swN d.1 a k), .arr (.int .u8) []])⟩
theorem swriteO_ok : GoodF Tryz.prog 182 swriteOS.spec := GoodF.nil (.int .u8) swrite_ok (fun xs hp => ⟨hp, rfl, rfl⟩)
def sreadOS : PSpec := ⟨[gD, gi], fun (d, a, _) => (none, .tup [devM1, I1 (srF d.1 a)], [.arr (.int .i64) (srN d.1 a), .arr (.int .u8) []])⟩
theorem sreadO_ok : GoodF Tryz.prog 175 sreadOS.spec := GoodF.nil (.int .u8) sread_ok (fun xs hp => ⟨hp, rfl, rfl⟩)
def onewOS : PSpec := ⟨[], fun _ => (none, devM, [.arr (.int .i64) (List.replicate 12 0), .arr (.int .u8) []])⟩
theorem onewO_ok : GoodF Tryz.prog 114 onewOS.spec := GoodF.nil (.int .u8) onew_ok (fun xs hp => ⟨hp, rfl, rfl⟩)
def owriteOS : PSpec := ⟨[gD, gi, gi], fun (d, a, k, _) => (none, devM, [.arr (.int .i64) (owF d.1 a k), .arr (.int .u8) []])⟩
theorem owriteO_ok : GoodF Tryz.prog 184 owriteOS.spec := GoodF.nil (.int .u8) owrite_ok (fun xs hp => ⟨hp, rfl, rfl⟩)
def oreadOS : PSpec := ⟨[gD, gi], fun (d, a, _) => (none, .tup [devM1, I1 (orF d.1 a)], [.arr (.int .i64) (sndN d.1), .arr (.int .u8) []])⟩
theorem oreadO_ok : GoodF Tryz.prog 177 oreadOS.spec := GoodF.nil (.int .u8) oread_ok (fun xs hp => ⟨hp, rfl, rfl⟩)

theorem kinds (k : Int) : k = 0 ∨ k = 1 ∨ k = 2 ∨ k = 3 ∨ k = 4 ∨ k = 5 ∨ k = 6 ∨ k = 7 ∨ k = 8 ∨ (k < 0 ∨ 8 < k) := by omega
def sel {α : Type} (k : Int) (m t p s v o r x : α) : α := if 0 ≤ k ∧ k ≤ 2 then m else if k = 3 then t else if k = 4 then p else if k = 5 then s else if k = 6 then v else if k = 7 then o else if k = 8 then r else x
theorem sel_x {α : Type} {k : Int} (h : k < 0 ∨ 8 < k) (m t p s v o r x : α) : sel k m t p s v o r x = x := by
  unfold sel
  rw [if_neg (by omega), if_neg (by omega), if_neg (by omega), if_neg (by omega), if_neg (by omega), if_neg (by omega), if_neg (by omega)]

theorem k3 {k : Int} (h : k < 3 ∨ k = 4 ∨ 8 < k) : k < 3 ∨ k = 4 ∨ 8 < k := h

-- what a state is in its form, a cycle later, ..

end Go.Proofs.YtofgbclopbmlcaaGreat

/- Memories read and written. -/
namespace Go.Proofs.YtofgbclopbmlcaaGreat
open Go.Fw
set_option linter.unusedVariables false
set_option linter.unusedSimpArgs false
set_option linter.constructorNameAsVariable false
set_option maxRecDepth 100000

theorem u8s_over {l M : List Int} (h1 : u8s l) (h2 : u8s M) : u8s (over l M 0) := by
  rw [over_eq]
  intro x hx
  rcases List.mem_append.1 hx with hx | hx
  · exact h2 x (List.mem_of_mem_drop (List.mem_of_mem_take hx))
  · exact h1 x (List.mem_of_mem_drop hx)
theorem u8s_zero (n : Nat) : u8s (List.replicate n 0) := fun x hx => by
  rw [List.eq_of_mem_replicate hx]; decide
theorem memM_u8 (c : Cv) {M : List Int} (h : u8s M) : u8s (memM c M) := u8s_over (u8s_zero _) h
theorem u8s_getD {M : List Int} (h : u8s M) (n : Nat) : 0 ≤ M.getD n 0 ∧ M.getD n 0 < 256 := by
  by_cases hn : n < M.length
  · rw [List.getD_eq_getElem?_getD, List.getElem?_eq_getElem hn]
    exact h _ (List.getElem_mem hn)
  · rw [List.getD_eq_getElem?_getD, List.getElem?_eq_none (by omega)]; decide
theorem u8s_w {M : List Int} (h : u8s M) (n : Nat) : IntKind.i64.wrap (M.getD n 0) = M.getD n 0 := by
  have := u8s_getD h n
  exact w64 (by omega) (by omega)
def placeI (c : Cv) (d : Dv) (a : Int) : Int := if c.2.1 = 2 then (if a < 1 ∨ a > winI c then -1 else d.1.getD 0 0 * winI c + a - 1) else if a < 0 ∨ a ≥ (List.length d.2 : Nat) then -1 else a
def placeP (c : Cv) (d : Dv) : Prop := cP c ∧ (c.2.1 = 2 → 0 < List.length d.1 ∧ 0 ≤ d.1.getD 0 0 ∧ d.1.getD 0 0 < bankI c)
theorem bank_mul {n b w : Int} (h0 : 0 ≤ n) (h1 : n < b) (hw : 1 ≤ w) : 0 ≤ n * w ∧ n * w + w ≤ b * w := by
  have h2 : (n + 1) * w ≤ b * w := Int.mul_le_mul_of_nonneg_right (by omega) (by omega)
  have h3 : 0 ≤ n * w := Int.mul_nonneg h0 (by omega)
  rw [Int.add_mul, Int.one_mul] at h2
  exact ⟨h3, h2⟩
def mPlaceS : PSpec := ⟨[gC, gD, gi], fun (c, d, a, _) => (some (placeP c d), I (placeI c d a), [])⟩
theorem mPlace_ok : GoodF Tryz.prog 232 mPlaceS.spec := by
  have hT := tab_ok (fs := [(197, windowS.spec)]) tree_ok
  have hP : SpecsOk Tryz.prog (tab tree [(197, windowS.spec)]) := specs_cons window_ok specs_nil
  refine mPlaceS.good (fn := Tryz.f232) hT hP Tryz.func232 (by kernel_rfl) rfl fun (c : Cv) (d : Dv) (a : Int) hp => ?_
  obtain ⟨cn, ck, cb, cs, cd⟩ := c
  obtain ⟨N, M⟩ := d
  obtain ⟨hc, hx⟩ : placeP (cn, ck, cb, cs, cd) (N, M) := hp _ rfl
  clear hp
  have hx : ck = 2 → 0 < N.length ∧ 0 ≤ N.getD 0 0 ∧ N.getD 0 0 < bankI (cn, ck, cb, cs, cd) := hx
  obtain ⟨w1, w2⟩ := winI_in (cn, ck, cb, cs, cd)
  obtain ⟨b1, b2, b3⟩ := bankI_in hc.2.2
  repeat' first
    | (refine Go.mk ?_; conv => whnf)
    | refine Need.go ?_ ?_
    | refine NilG.go (fun _ => ?_) (fun _ => ?_)
    | refine Br.dec (fun _ => ?_) (fun _ => ?_)
    | refine Br.go (fun _ => ?_) (fun _ => ?_)
    | refine draw_go hT hP mixed ?_
    | refine round_go hT hP ?_
  all_goals (try dsimp only [castL_eq] at *)
  all_goals clear hT hP
  · rename_i g1 g2
    refine .mk [] [] _ rfl rfl rfl rfl rfl rfl (imm_int ?_)
    exact (by unfold placeI; rw [if_pos g1, if_pos (.inl g2)] : -1 = placeI (cn, ck, cb, cs, cd) (N, M) a)
  · rename_i g1 g2 g3
    refine .mk [] [] _ rfl rfl rfl rfl rfl rfl (imm_int ?_)
    exact (by unfold placeI; rw [if_pos g1, if_pos (.inr g3)] : -1 = placeI (cn, ck, cb, cs, cd) (N, M) a)
  · rename_i g1 g2 g3
    have := hx g1
    show (0 : Int) ≤ 0 ∧ (0 : Int) < (N.length : Int)
    omega
  · rename_i g1 g2 g3
    refine .mk [] [] _ rfl rfl rfl rfl rfl rfl (imm_int ?_)
    show IntKind.i64.wrap (IntKind.i64.wrap (IntKind.i64.wrap (N.getD 0 0 * winI (cn, ck, cb, cs, cd)) + a) - 1) = placeI (cn, ck, cb, cs, cd) (N, M) a
    obtain ⟨_, n0, n1⟩ := hx g1
    obtain ⟨m1, m2⟩ := bank_mul n0 n1 w1
    have g2 : ¬ a < 1 := g2
    have g3 : ¬ a > winI (cn, ck, cb, cs, cd) := g3
    have b3 : bankI (cn, ck, cb, cs, cd) * winI (cn, ck, cb, cs, cd) ≤ 140737488355328 := b3
    unfold placeI
    rw [if_pos (show (cn, ck, cb, cs, cd).2.1 = 2 from g1), if_neg (by omega), w64 (x := N.getD 0 0 * winI (cn, ck, cb, cs, cd)) (by omega) (by omega), w64 (x := N.getD 0 0 * winI (cn, ck, cb, cs, cd) + a) (by omega) (by omega), w64 (by omega) (by omega)]
  · rename_i g1 g2
    refine .mk [] [] _ rfl rfl rfl rfl rfl rfl (imm_int ?_)
    exact (by unfold placeI; rw [if_neg g1, if_pos (.inl g2)] : -1 = placeI (cn, ck, cb, cs, cd) (N, M) a)
  · rename_i g1 g2 g3
    refine .mk [] [] _ rfl rfl rfl rfl rfl rfl (imm_int ?_)
    exact (by unfold placeI; rw [if_neg g1, if_pos (.inr g3)] : -1 = placeI (cn, ck, cb, cs, cd) (N, M) a)
  · rename_i g1 g2 g3
    refine .mk [] [] _ rfl rfl rfl rfl rfl rfl (imm_int ?_)
    exact (by unfold placeI; rw [if_neg g1, if_neg (fun h => h.elim g2 g3)] : a = placeI (cn, ck, cb, cs, cd) (N, M) a)

/-- the state of a memory, in its form -/
def memD (c : Cv) (d : Dv) : Dv := (memN c d.1, memM c d.2)
theorem mem_placeP {c : Cv} (d : Dv) (h : cP c) : placeP c (memD c d) := by
  refine ⟨h, fun hk => ?_⟩
  obtain ⟨b1, b2, b3⟩ := bankI_in h.2.2
  unfold memD memN
  rw [if_pos hk]
  exact ⟨by show 0 < 1; omega, Int.emod_nonneg _ (by omega), Int.emod_lt_of_pos _ (by omega)⟩
theorem mem_place_in {c : Cv} (d : Dv) (h : cP c) {a : Int} (h2 : placeI c (memD c d) a ≥ 0) : placeI c (memD c d) a < ((memM c d.2).length : Nat) := by
  obtain ⟨b1, b2, b3⟩ := bankI_in h.2.2
  obtain ⟨w1, w2⟩ := winI_in c
  obtain ⟨_, hx⟩ := mem_placeP d h
  unfold placeI at h2 ⊢
  by_cases hk : c.2.1 = 2
  · rw [if_pos hk] at h2 ⊢
    by_cases ha : a < 1 ∨ a > winI c
    · rw [if_pos ha] at h2; omega
    · rw [if_neg ha]
      obtain ⟨_, n0, n1⟩ := hx hk
      obtain ⟨m1, m2⟩ := bank_mul n0 n1 w1
      rw [memM_len, bytesI, if_pos hk]
      omega
  · rw [if_neg hk] at h2 ⊢
    by_cases ha : a < 0 ∨ a ≥ ((memD c d).2.length : Nat)
    · rw [if_pos ha] at h2; omega
    · rw [if_neg ha]
      show a < ((memD c d).2.length : Nat)
      omega
def memRd (c : Cv) (d : Dv) (a : Int) : Int := if placeI c (memD c d) a ≥ 0 then (memM c d.2).getD (placeI c (memD c d) a).toNat 0 else if c.2.1 = 2 ∧ a = 0 then (memN c d.1).getD 0 0 else 0
def cReadMS : PSpec := ⟨[gC, gD, gi], fun (c, d, a, _) => (some (cP c ∧ dP d), .tup [devM1, I1 (memRd c d a)], [.arr (.int .i64) (memN c d.1), .arr (.int .u8) (memM c d.2)])⟩
theorem cReadM_ok : GoodF Tryz.prog 172 cReadMS.spec := by
  have hT := tab_ok (fs := [(155, cfitS.spec), (232, mPlaceS.spec)]) tree_ok
  have hP : SpecsOk Tryz.prog (tab tree [(155, cfitS.spec), (232, mPlaceS.spec)]) := specs_cons cfit_ok (specs_cons mPlace_ok specs_nil)
  refine cReadMS.good (fn := Tryz.f172) hT hP Tryz.func172 (by kernel_rfl) rfl fun (c : Cv) (d : Dv) (a : Int) hp => ?_
  obtain ⟨cn, ck, cb, cs, cd⟩ := c
  obtain ⟨N, M⟩ := d
  obtain ⟨hc, hl, hu⟩ : cP (cn, ck, cb, cs, cd) ∧ dP (N, M) := hp _ rfl
  clear hp
  have h0 := mem_placeP (N, M) hc
  have h1 := @mem_place_in _ (N, M) hc a
  repeat' first
    | (refine Go.mk ?_; conv => whnf)
    | refine Need.go ?_ ?_
    | refine NilG.go (fun _ => ?_) (fun _ => ?_)
    | refine Br.dec (fun _ => ?_) (fun _ => ?_)
    | refine Br.go (fun _ => ?_) (fun _ => ?_)
    | refine draw_go hT hP mixed ?_
    | refine round_go hT hP ?_
  all_goals (try dsimp only [castL_eq] at *)
  all_goals clear hT hP
  · exact hc
  · exact h0
  · rename_i g
    have h1 := h1 g
    exact ⟨g, h1⟩
  · rename_i g
    have h1 := h1 g
    have h1 : placeI (cn, ck, cb, cs, cd) (memN (cn, ck, cb, cs, cd) N, memM (cn, ck, cb, cs, cd) M) a < ((memM (cn, ck, cb, cs, cd) M).length : Nat) := h1
    omega
  · rename_i g
    refine .mk [] [3, 4] _ rfl rfl rfl rfl rfl rfl (tup_r2 ?_)
    show IntKind.i64.wrap ((memM (cn, ck, cb, cs, cd) M).getD (placeI (cn, ck, cb, cs, cd) (memN (cn, ck, cb, cs, cd) N, memM (cn, ck, cb, cs, cd) M) a).toNat 0) = memRd (cn, ck, cb, cs, cd) (N, M) a
    rw [u8s_w (memM_u8 _ hu), memRd, if_pos (show placeI (cn, ck, cb, cs, cd) (memD (cn, ck, cb, cs, cd) (N, M)) a ≥ 0 from g)]; rfl
  · rename_i g g1 g2
    exact ⟨Int.le_refl _, by have : 0 < (memN (cn, ck, cb, cs, cd) N).length := (h0.2 g1).1; show (0 : Int) < ((memN (cn, ck, cb, cs, cd) N).length : Nat); omega⟩
  · rename_i g g1 g2
    exact (h0.2 g1).1
  · rename_i g g1 g2
    refine .mk [] [3, 4] _ rfl rfl rfl rfl rfl rfl (tup_r2 ?_)
    show (memN (cn, ck, cb, cs, cd) N).getD 0 0 = memRd (cn, ck, cb, cs, cd) (N, M) a
    rw [memRd, if_neg (show ¬ placeI (cn, ck, cb, cs, cd) (memD (cn, ck, cb, cs, cd) (N, M)) a ≥ 0 from g), if_pos ⟨g1, g2⟩]
  · rename_i g g1 g2
    refine .mk [] [3, 4] _ rfl rfl rfl rfl rfl rfl (tup_r2 ?_)
    show 0 = memRd (cn, ck, cb, cs, cd) (N, M) a
    rw [memRd, if_neg (show ¬ placeI (cn, ck, cb, cs, cd) (memD (cn, ck, cb, cs, cd) (N, M)) a ≥ 0 from g), if_neg (fun h => g2 h.2)]
  · rename_i g g1
    refine .mk [] [3, 4] _ rfl rfl rfl rfl rfl rfl (tup_r2 ?_)
    show 0 = memRd (cn, ck, cb, cs, cd) (N, M) a
    rw [memRd, if_neg (show ¬ placeI (cn, ck, cb, cs, cd) (memD (cn, ck, cb, cs, cd) (N, M)) a ≥ 0 from g), if_neg (fun h => g1 h.1)]

def memWr (c : Cv) (d : Dv) (a k : Int) : Dv := if c.2.1 = 1 then memD c d else if placeI c (memD c d) a ≥ 0 then (memN c d.1, (memM c d.2).set (placeI c (memD c d) a).toNat (k % 256)) else if c.2.1 = 2 ∧ a = 0 then ((memN c d.1).set 0 (k % 256 % bankI c), memM c d.2) else memD c d
def cWriteMS : PSpec := ⟨[gC, gD, gi, gi], fun (c, d, a, k, _) => (some (cP c), devM, [.arr (.int .i64) (memWr c d a k).1, .arr (.int .u8) (memWr c d a k).2])⟩
theorem cWriteM_ok : GoodF Tryz.prog 179 cWriteMS.spec := by
  have hT := tab_ok (fs := [(155, cfitS.spec), (232, mPlaceS.spec), (94, lowM.spec), (196, cBanksS.spec)]) tree_ok
  have hP : SpecsOk Tryz.prog (tab tree [(155, cfitS.spec), (232, mPlaceS.spec), (94, lowM.spec), (196, cBanksS.spec)]) := specs_cons cfit_ok (specs_cons mPlace_ok (specs_cons lowM_ok (specs_cons cBanks_ok specs_nil)))
  refine cWriteMS.good (fn := Tryz.f179) hT hP Tryz.func179 (by kernel_rfl) rfl fun (c : Cv) (d : Dv) (a k : Int) hp => ?_
  obtain ⟨cn, ck, cb, cs, cd⟩ := c
  obtain ⟨N, M⟩ := d
  have hc : cP (cn, ck, cb, cs, cd) := hp _ rfl
  clear hp
  have h0 := mem_placeP (N, M) hc
  have h1 := @mem_place_in _ (N, M) hc a
  obtain ⟨b1, b2, b3⟩ := bankI_in hc.2.2
  repeat' first
    | (refine Go.mk ?_; conv => whnf)
    | refine Need.go ?_ ?_
    | refine NilG.go (fun _ => ?_) (fun _ => ?_)
    | refine Br.dec (fun _ => ?_) (fun _ => ?_)
    | refine Br.go (fun _ => ?_) (fun _ => ?_)
    | refine draw_go hT hP mixed ?_
    | refine round_go hT hP ?_
  all_goals (try dsimp only [castL_eq] at *)
  all_goals clear hT hP
  · exact hc
  · exact h0
  · rename_i g
    refine .mk [] [3, 4] _ rfl rfl rfl rfl rfl (blk2_eq (l := memN (cn, ck, cb, cs, cd) N) (l' := (memWr (cn, ck, cb, cs, cd) (N, M) a k).1) (m := memM (cn, ck, cb, cs, cd) M) (m' := (memWr (cn, ck, cb, cs, cd) (N, M) a k).2) ?_ ?_) rfl
    all_goals (rw [memWr, if_pos (show (cn, ck, cb, cs, cd).2.1 = 1 from g)]; rfl)
  · exact of_decide_eq_true rfl
  · rename_i g0 g
    exact ⟨g, h1 g⟩
  · rename_i g0 g
    have h1 := h1 g
    have h1 : placeI (cn, ck, cb, cs, cd) (memN (cn, ck, cb, cs, cd) N, memM (cn, ck, cb, cs, cd) M) a < ((memM (cn, ck, cb, cs, cd) M).length : Nat) := h1
    omega
  · rename_i g0 g
    refine .mk [] [3, 4] _ rfl rfl rfl rfl rfl (blk2_eq (l := memN (cn, ck, cb, cs, cd) N) (l' := (memWr (cn, ck, cb, cs, cd) (N, M) a k).1) (m := (memM (cn, ck, cb, cs, cd) M).set (placeI (cn, ck, cb, cs, cd) (memD (cn, ck, cb, cs, cd) (N, M)) a).toNat (IntKind.u8.wrap (k % 256))) (m' := (memWr (cn, ck, cb, cs, cd) (N, M) a k).2) ?_ ?_) rfl
    all_goals rw [memWr, if_neg (show ¬ (cn, ck, cb, cs, cd).2.1 = 1 from g0), if_pos (show placeI (cn, ck, cb, cs, cd) (memD (cn, ck, cb, cs, cd) (N, M)) a ≥ 0 from g)]
    have e : IntKind.u8.wrap (k % 256) = k % 256 := by show k % 256 % 256 = k % 256; omega
    rw [e]
  · exact of_decide_eq_true rfl
  · exact hc.2.2
  · show bankI (cn, ck, cb, cs, cd) ≠ 0
    omega
  · rename_i g0 g g1 g2
    exact ⟨Int.le_refl _, by have : 0 < (memN (cn, ck, cb, cs, cd) N).length := (h0.2 g1).1; show (0 : Int) < ((memN (cn, ck, cb, cs, cd) N).length : Nat); omega⟩
  · rename_i g0 g g1 g2
    exact (h0.2 g1).1
  · rename_i g0 g g1 g2
    refine .mk [] [3, 4] _ rfl rfl rfl rfl rfl (blk2_eq (l := (memN (cn, ck, cb, cs, cd) N).set 0 (Int.tmod (k % 256) (bankI (cn, ck, cb, cs, cd)))) (l' := (memWr (cn, ck, cb, cs, cd) (N, M) a k).1) (m := memM (cn, ck, cb, cs, cd) M) (m' := (memWr (cn, ck, cb, cs, cd) (N, M) a k).2) ?_ ?_) rfl
    all_goals rw [memWr, if_neg (show ¬ (cn, ck, cb, cs, cd).2.1 = 1 from g0), if_neg (show ¬ placeI (cn, ck, cb, cs, cd) (memD (cn, ck, cb, cs, cd) (N, M)) a ≥ 0 from g), if_pos ⟨g1, g2⟩]
    rw [Int.tmod_eq_emod_of_nonneg (by omega)]
  · rename_i g0 g g1 g2
    refine .mk [] [3, 4] _ rfl rfl rfl rfl rfl (blk2_eq (l := memN (cn, ck, cb, cs, cd) N) (l' := (memWr (cn, ck, cb, cs, cd) (N, M) a k).1) (m := memM (cn, ck, cb, cs, cd) M) (m' := (memWr (cn, ck, cb, cs, cd) (N, M) a k).2) ?_ ?_) rfl
    all_goals (rw [memWr, if_neg (show ¬ (cn, ck, cb, cs, cd).2.1 = 1 from g0), if_neg (show ¬ placeI (cn, ck, cb, cs, cd) (memD (cn, ck, cb, cs, cd) (N, M)) a ≥ 0 from g), if_neg (fun h => g2 h.2)]; rfl)
  · rename_i g0 g g1
    refine .mk [] [3, 4] _ rfl rfl rfl rfl rfl (blk2_eq (l := memN (cn, ck, cb, cs, cd) N) (l' := (memWr (cn, ck, cb, cs, cd) (N, M) a k).1) (m := memM (cn, ck, cb, cs, cd) M) (m' := (memWr (cn, ck, cb, cs, cd) (N, M) a k).2) ?_ ?_) rfl
    all_goals (rw [memWr, if_neg (show ¬ (cn, ck, cb, cs, cd).2.1 = 1 from g0), if_neg (show ¬ placeI (cn, ck, cb, cs, cd) (memD (cn, ck, cb, cs, cd) (N, M)) a ≥ 0 from g), if_neg (fun h => g1 h.1)]; rfl)

-- reading and writing, whatever the kind

def loadD (c : Cv) (d : Dv) (a : Int) : Dv := sel c.2.1 (memD c d) (trN d.1 a, []) (portN d.1, []) (srN d.1 a, []) (vrN d.1 a, vM d.2) (sndN d.1, []) (drN d.1 (qF d.2) a, dM d.2) ([], [])
def loadI (c : Cv) (d : Dv) (a : Int) : Int := sel c.2.1 (memRd c d a) (trF d.1 a) (preadF d.1 a) (srF d.1 a) (vrF d.1 (vM d.2) a) (orF d.1 a) (drF d.1 (qF d.2) a) 0
def storeF (c : Cv) (d : Dv) (a k : Int) : Dv := sel c.2.1 (memWr c d a k) (twN d.1 a k, []) (pwN d.1 a k, []) (swN d.1 a k, []) ([vP d.1, vH d.1], vwM (vM d.2) a k) (owF d.1 a k, []) (dwN d.1 (qF d.2) a k, dM d.2) ([], [])
def cReadS : PSpec := ⟨[gC, gD, gi], fun (c, d, a, _) => (some (cP c ∧ dP d), .tup [devM1, I1 (loadI c d a)], [.arr (.int .i64) (loadD c d a).1, .arr (.int .u8) (loadD c d a).2])⟩
theorem tup_x {r r' : Int} (h : r = r') : AV.tup [devM1, I1 r] = AV.tup [devM1, I1 r'] := by rw [h]
theorem cRead_ok : GoodF Tryz.prog 95 cReadS.spec := by
  have hT := tab_ok (fs := [(172, cReadMS.spec), (173, treadOS.spec), (174, preadOS.spec), (175, sreadOS.spec), (176, vreadS.spec), (177, oreadOS.spec), (178, dreadS.spec)]) tree_ok
  have hP : SpecsOk Tryz.prog (tab tree [(172, cReadMS.spec), (173, treadOS.spec), (174, preadOS.spec), (175, sreadOS.spec), (176, vreadS.spec), (177, oreadOS.spec), (178, dreadS.spec)]) := specs_cons cReadM_ok (specs_cons treadO_ok (specs_cons preadO_ok (specs_cons sreadO_ok (specs_cons vread_ok (specs_cons oreadO_ok (specs_cons dread_ok specs_nil))))))
  refine cReadS.good (fn := Tryz.f95) hT hP Tryz.func95 (by kernel_rfl) rfl fun (c : Cv) (d : Dv) (a : Int) hp => ?_
  obtain ⟨cn, ck, cb, cs, cd⟩ := c
  obtain ⟨N, M⟩ := d
  obtain ⟨hc, hl, hu⟩ : cP (cn, ck, cb, cs, cd) ∧ dP (N, M) := hp _ rfl
  clear hp
  rcases kinds ck with rfl | rfl | rfl | rfl | rfl | rfl | rfl | rfl | rfl | hx
  all_goals
    repeat' first
      | (refine Go.mk ?_; conv => whnf)
      | refine Need.go ?_ ?_
      | refine NilG.go (fun _ => ?_) (fun _ => ?_)
      | refine Br.dec (fun _ => ?_) (fun _ => ?_)
      | refine Br.go (fun _ => ?_) (fun _ => ?_)
      | refine draw_go hT hP mixed ?_
      | refine round_go hT hP ?_
    all_goals (try dsimp only [castL_eq] at *)
  all_goals first
    | exact ⟨hc, hl, hu⟩
    | exact hu
    | exact hl
    | exact .mk [] [3, 4] _ rfl rfl rfl rfl rfl rfl rfl
    | (exfalso; omega)
    | (refine .le (Le.nilH 2 (.int .i64) _ _ rfl rfl rfl) (.le (Le.nilH 2 (.int .u8) _ _ rfl rfl rfl) (.mk [] [3, 4] _ rfl rfl rfl rfl rfl (blk2_eq (l := []) (m := []) ?_ ?_) (tup_x ?_))) <;> first | (unfold loadD; rw [sel_x hx]) | (unfold loadI; rw [sel_x hx]))
    | skip

def cWriteS : PSpec := ⟨[gC, gD, gi, gi], fun (c, d, a, k, _) => (some (cP c ∧ dP d), devM, [.arr (.int .i64) (storeF c d a k).1, .arr (.int .u8) (storeF c d a k).2])⟩
theorem cWrite_ok : GoodF Tryz.prog 96 cWriteS.spec := by
  have hT := tab_ok (fs := [(179, cWriteMS.spec), (180, twriteOS.spec), (181, pwriteOS.spec), (182, swriteOS.spec), (183, vwriteS.spec), (184, owriteOS.spec), (185, dwriteS.spec)]) tree_ok
  have hP : SpecsOk Tryz.prog (tab tree [(179, cWriteMS.spec), (180, twriteOS.spec), (181, pwriteOS.spec), (182, swriteOS.spec), (183, vwriteS.spec), (184, owriteOS.spec), (185, dwriteS.spec)]) := specs_cons cWriteM_ok (specs_cons twriteO_ok (specs_cons pwriteO_ok (specs_cons swriteO_ok (specs_cons vwrite_ok (specs_cons owriteO_ok (specs_cons dwrite_ok specs_nil))))))
  refine cWriteS.good (fn := Tryz.f96) hT hP Tryz.func96 (by kernel_rfl) rfl fun (c : Cv) (d : Dv) (a k : Int) hp => ?_
  obtain ⟨cn, ck, cb, cs, cd⟩ := c
  obtain ⟨N, M⟩ := d
  obtain ⟨hc, hl, hu⟩ : cP (cn, ck, cb, cs, cd) ∧ dP (N, M) := hp _ rfl
  clear hp
  rcases kinds ck with rfl | rfl | rfl | rfl | rfl | rfl | rfl | rfl | rfl | hx
  all_goals
    repeat' first
      | (refine Go.mk ?_; conv => whnf)
      | refine Need.go ?_ ?_
      | refine NilG.go (fun _ => ?_) (fun _ => ?_)
      | refine Br.dec (fun _ => ?_) (fun _ => ?_)
      | refine Br.go (fun _ => ?_) (fun _ => ?_)
      | refine draw_go hT hP mixed ?_
      | refine round_go hT hP ?_
    all_goals (try dsimp only [castL_eq] at *)
  all_goals first
    | exact hc
    | exact hl
    | exact .mk [] [3, 4] _ rfl rfl rfl rfl rfl rfl rfl
    | (exfalso; omega)
    | (refine .le (Le.nilH 2 (.int .i64) _ _ rfl rfl rfl) (.le (Le.nilH 2 (.int .u8) _ _ rfl rfl rfl) (.mk [] [3, 4] _ rfl rfl rfl rfl rfl (blk2_eq (l := []) (m := []) ?_ ?_) rfl)) <;> (unfold storeF; rw [sel_x hx]))
    | skip

end Go.Proofs.YtofgbclopbmlcaaGreat

/- Chips: which are valid. -/
namespace Go.Proofs.YtofgbclopbmlcaaGreat
open Go.Fw
set_option linter.unusedVariables false
set_option linter.unusedSimpArgs false
set_option linter.constructorNameAsVariable false
set_option maxRecDepth 100000

def cmemoryS : PSpec := ⟨[gi], fun (k, _) => (none, .cell (bv (decide (k = 0) || (decide (k = 1) || decide (k = 2)))), [])⟩
theorem cmemory_ok : GoodF Tryz.prog 191 cmemoryS.spec := by
  have hT := tab_ok (fs := []) tree_ok
  have hP : SpecsOk Tryz.prog (tab tree []) := specs_nil
  refine cmemoryS.good (fn := Tryz.f191) hT hP Tryz.func191 (by kernel_rfl) rfl fun (k : Int) _ => ?_
  repeat' first
    | (refine Go.mk ?_; conv => whnf)
    | refine Need.go ?_ ?_
    | refine NilG.go (fun _ => ?_) (fun _ => ?_)
    | refine Br.dec (fun _ => ?_) (fun _ => ?_)
    | refine Br.go (fun _ => ?_) (fun _ => ?_)
    | refine draw_go hT hP mixed ?_
    | refine round_go hT hP ?_
  all_goals (refine .mk [] [] _ rfl rfl rfl rfl rfl rfl (imm_bool ?_))
  all_goals (simp_all)
  all_goals (by_cases h : k = 2 <;> simp [h])
def sizeK (k : Int) : Int := sel k 0 4 2 3 32 8 4 0
def csizeS : PSpec := ⟨[gi], fun (k, _) => (none, I (sizeK k), [])⟩
theorem csize_ok : GoodF Tryz.prog 192 csizeS.spec := by
  have hT := tab_ok (fs := []) tree_ok
  have hP : SpecsOk Tryz.prog (tab tree []) := specs_nil
  refine csizeS.good (fn := Tryz.f192) hT hP Tryz.func192 (by kernel_rfl) rfl fun (k : Int) _ => ?_
  rcases kinds k with rfl | rfl | rfl | rfl | rfl | rfl | rfl | rfl | rfl | hx
  all_goals
    repeat' first
      | (refine Go.mk ?_; conv => whnf)
      | refine Need.go ?_ ?_
      | refine NilG.go (fun _ => ?_) (fun _ => ?_)
      | refine Br.dec (fun _ => ?_) (fun _ => ?_)
      | refine Br.go (fun _ => ?_) (fun _ => ?_)
      | refine draw_go hT hP mixed ?_
      | refine round_go hT hP ?_
  all_goals first
    | exact .mk [] [] _ rfl rfl rfl rfl rfl rfl rfl
    | (exfalso; dsimp only [gi, Den] at *; omega)
    | exact .mk [] [] _ rfl rfl rfl rfl rfl rfl (imm_int (sel_x hx ..).symm)
    | skip

def cpuStr : ByteArray := ⟨#[99, 112, 117]⟩
def chipBad (k s : Int) (n : Nat) : Bool := (decide (k = 0 ∨ k = 1) && decide ((n : Int) > s)) || ((decide (3 ≤ k ∧ k ≤ 7) && decide (n > 0)) || (decide (k = 8) && decide (¬ n % 256 = 0)))
def chipE (c : Cv) : Int :=
  if nameB (bytesOf c.1) = false then 15 else if strEq c.1 cpuStr = true then 20 else if c.2.1 < 0 ∨ 8 < c.2.1 then 8
  else if (c.2.1 ≤ 2 ∧ c.2.2.2.1 < (if c.2.1 = 2 then 2 else 1)) ∨ (2 < c.2.1 ∧ ¬ c.2.2.2.1 = sizeK c.2.1) then 1 else if c.2.2.2.1 > 4096 ∨ List.length c.2.2.2.2 > 4096 then 2
  else if c.2.2.1 < 0 ∨ c.2.2.1 > IntKind.i64.wrap (65536 - c.2.2.2.1) then 19 else if chipBad c.2.1 c.2.2.2.1 (List.length c.2.2.2.2) = true then 3 else 0
def chipES : PSpec := ⟨[gC], fun (c, _) => (some (cP c), I (chipE c), [])⟩
set_option maxHeartbeats 8000000 in
theorem cCheck_ok : GoodF Tryz.prog 102 chipES.spec := by
  have hT := tab_ok (fs := [(100, nameS.spec), (191, cmemoryS.spec), (192, csizeS.spec)]) tree_ok
  have hP : SpecsOk Tryz.prog (tab tree [(100, nameS.spec), (191, cmemoryS.spec), (192, csizeS.spec)]) := specs_cons tName_ok (specs_cons cmemory_ok (specs_cons csize_ok specs_nil))
  refine chipES.good (fn := Tryz.f102) hT hP Tryz.func102 (by kernel_rfl) rfl fun (c : Cv) hp => ?_
  obtain ⟨hb, hs, hl⟩ : cP c := hp _ rfl
  obtain ⟨cn, ck, cb, cs, cd⟩ := c
  obtain ⟨hs1, hs2⟩ : -9223372036854775808 ≤ cs ∧ cs ≤ 9223372036854775807 := hs
  clear hp hb hl
  have hcn : cpuStr = ⟨#[99, 112, 117]⟩ := rfl
  have htm : Int.tmod (cd.length : Int) 256 = ((cd.length % 256 : Nat) : Int) := by rw [Int.tmod_eq_emod_of_nonneg (by omega)]; omega
  rcases kinds ck with rfl | rfl | rfl | rfl | rfl | rfl | rfl | rfl | rfl | hx
  rotate_right
  · have h8 : ¬ (¬ ck < 0 ∧ ¬ ck ≥ 9) := by omega
    repeat' first
      | (exfalso; exact h8 ⟨by assumption, by assumption⟩)
      | (refine Go.mk ?_; conv => whnf)
      | refine Need.go ?_ ?_
      | refine NilG.go (fun _ => ?_) (fun _ => ?_)
      | refine Br.dec (fun _ => ?_) (fun _ => ?_)
      | refine Br.go (fun _ => ?_) (fun _ => ?_)
      | refine draw_go hT hP mixed ?_
      | refine round_go hT hP ?_
    all_goals (try dsimp only [castL_eq] at *)
    all_goals clear hT hP
    all_goals (refine .mk [] [] _ rfl rfl rfl rfl rfl rfl (imm_int ?_))
    all_goals (show _ = chipE (cn, ck, cb, cs, cd))
    all_goals (unfold chipE)
    all_goals (dsimp only)
    all_goals (simp_all)
    all_goals (intros; omega)
  · repeat' first
      | (refine Go.mk ?_; conv => whnf)
      | refine Need.go ?_ ?_
      | refine NilG.go (fun _ => ?_) (fun _ => ?_)
      | refine Br.dec (fun _ => ?_) (fun _ => ?_)
      | refine Br.go (fun _ => ?_) (fun _ => ?_)
      | refine draw_go hT hP mixed ?_
      | refine round_go hT hP ?_
    all_goals (try dsimp only [castL_eq] at *)
    all_goals first
      | exact of_decide_eq_true rfl
      | skip
    all_goals clear hT hP
    all_goals (refine .mk [] [] _ rfl rfl rfl rfl rfl rfl (imm_int ?_))
    all_goals (show _ = chipE (cn, 0, cb, cs, cd))
    all_goals (simp_all [chipE, chipBad, sizeK, sel])
    all_goals (intros; (repeat' split) <;> omega)
  · repeat' first
      | (refine Go.mk ?_; conv => whnf)
      | refine Need.go ?_ ?_
      | refine NilG.go (fun _ => ?_) (fun _ => ?_)
      | refine Br.dec (fun _ => ?_) (fun _ => ?_)
      | refine Br.go (fun _ => ?_) (fun _ => ?_)
      | refine draw_go hT hP mixed ?_
      | refine round_go hT hP ?_
    all_goals (try dsimp only [castL_eq] at *)
    all_goals first
      | exact of_decide_eq_true rfl
      | skip
    all_goals clear hT hP
    all_goals (refine .mk [] [] _ rfl rfl rfl rfl rfl rfl (imm_int ?_))
    all_goals (show _ = chipE (cn, 1, cb, cs, cd))
    all_goals (simp_all [chipE, chipBad, sizeK, sel])
    all_goals (intros; (repeat' split) <;> omega)
  · repeat' first
      | (refine Go.mk ?_; conv => whnf)
      | refine Need.go ?_ ?_
      | refine NilG.go (fun _ => ?_) (fun _ => ?_)
      | refine Br.dec (fun _ => ?_) (fun _ => ?_)
      | refine Br.go (fun _ => ?_) (fun _ => ?_)
      | refine draw_go hT hP mixed ?_
      | refine round_go hT hP ?_
    all_goals (try dsimp only [castL_eq] at *)
    all_goals first
      | exact of_decide_eq_true rfl
      | skip
    all_goals clear hT hP
    all_goals (refine .mk [] [] _ rfl rfl rfl rfl rfl rfl (imm_int ?_))
    all_goals (show _ = chipE (cn, 2, cb, cs, cd))
    all_goals (simp_all [chipE, chipBad, sizeK, sel])
    all_goals (intros; (repeat' split) <;> omega)
  · repeat' first
      | (refine Go.mk ?_; conv => whnf)
      | refine Need.go ?_ ?_
      | refine NilG.go (fun _ => ?_) (fun _ => ?_)
      | refine Br.dec (fun _ => ?_) (fun _ => ?_)
      | refine Br.go (fun _ => ?_) (fun _ => ?_)
      | refine draw_go hT hP mixed ?_
      | refine round_go hT hP ?_
    all_goals (try dsimp only [castL_eq] at *)
    all_goals first
      | exact of_decide_eq_true rfl
      | skip
    all_goals clear hT hP
    all_goals (refine .mk [] [] _ rfl rfl rfl rfl rfl rfl (imm_int ?_))
    all_goals (show _ = chipE (cn, 3, cb, cs, cd))
    all_goals (simp_all [chipE, chipBad, sizeK, sel])
    all_goals (intros; (repeat' split) <;> omega)
  · repeat' first
      | (refine Go.mk ?_; conv => whnf)
      | refine Need.go ?_ ?_
      | refine NilG.go (fun _ => ?_) (fun _ => ?_)
      | refine Br.dec (fun _ => ?_) (fun _ => ?_)
      | refine Br.go (fun _ => ?_) (fun _ => ?_)
      | refine draw_go hT hP mixed ?_
      | refine round_go hT hP ?_
    all_goals (try dsimp only [castL_eq] at *)
    all_goals first
      | exact of_decide_eq_true rfl
      | skip
    all_goals clear hT hP
    all_goals (refine .mk [] [] _ rfl rfl rfl rfl rfl rfl (imm_int ?_))
    all_goals (show _ = chipE (cn, 4, cb, cs, cd))
    all_goals (simp_all [chipE, chipBad, sizeK, sel])
    all_goals (intros; (repeat' split) <;> omega)
  · repeat' first
      | (refine Go.mk ?_; conv => whnf)
      | refine Need.go ?_ ?_
      | refine NilG.go (fun _ => ?_) (fun _ => ?_)
      | refine Br.dec (fun _ => ?_) (fun _ => ?_)
      | refine Br.go (fun _ => ?_) (fun _ => ?_)
      | refine draw_go hT hP mixed ?_
      | refine round_go hT hP ?_
    all_goals (try dsimp only [castL_eq] at *)
    all_goals first
      | exact of_decide_eq_true rfl
      | skip
    all_goals clear hT hP
    all_goals (refine .mk [] [] _ rfl rfl rfl rfl rfl rfl (imm_int ?_))
    all_goals (show _ = chipE (cn, 5, cb, cs, cd))
    all_goals (simp_all [chipE, chipBad, sizeK, sel])
    all_goals (intros; (repeat' split) <;> omega)
  · repeat' first
      | (refine Go.mk ?_; conv => whnf)
      | refine Need.go ?_ ?_
      | refine NilG.go (fun _ => ?_) (fun _ => ?_)
      | refine Br.dec (fun _ => ?_) (fun _ => ?_)
      | refine Br.go (fun _ => ?_) (fun _ => ?_)
      | refine draw_go hT hP mixed ?_
      | refine round_go hT hP ?_
    all_goals (try dsimp only [castL_eq] at *)
    all_goals first
      | exact of_decide_eq_true rfl
      | skip
    all_goals clear hT hP
    all_goals (refine .mk [] [] _ rfl rfl rfl rfl rfl rfl (imm_int ?_))
    all_goals (show _ = chipE (cn, 6, cb, cs, cd))
    all_goals (simp_all [chipE, chipBad, sizeK, sel])
    all_goals (intros; (repeat' split) <;> omega)
  · repeat' first
      | (refine Go.mk ?_; conv => whnf)
      | refine Need.go ?_ ?_
      | refine NilG.go (fun _ => ?_) (fun _ => ?_)
      | refine Br.dec (fun _ => ?_) (fun _ => ?_)
      | refine Br.go (fun _ => ?_) (fun _ => ?_)
      | refine draw_go hT hP mixed ?_
      | refine round_go hT hP ?_
    all_goals (try dsimp only [castL_eq] at *)
    all_goals first
      | exact of_decide_eq_true rfl
      | skip
    all_goals clear hT hP
    all_goals (refine .mk [] [] _ rfl rfl rfl rfl rfl rfl (imm_int ?_))
    all_goals (show _ = chipE (cn, 7, cb, cs, cd))
    all_goals (simp_all [chipE, chipBad, sizeK, sel])
    all_goals (intros; (repeat' split) <;> omega)
  · repeat' first
      | (refine Go.mk ?_; conv => whnf)
      | refine Need.go ?_ ?_
      | refine NilG.go (fun _ => ?_) (fun _ => ?_)
      | refine Br.dec (fun _ => ?_) (fun _ => ?_)
      | refine Br.go (fun _ => ?_) (fun _ => ?_)
      | refine draw_go hT hP mixed ?_
      | refine round_go hT hP ?_
    all_goals (try dsimp only [castL_eq] at *)
    all_goals first
      | exact of_decide_eq_true rfl
      | skip
    all_goals clear hT hP
    all_goals (refine .mk [] [] _ rfl rfl rfl rfl rfl rfl (imm_int ?_))
    all_goals (show _ = chipE (cn, 8, cb, cs, cd))
    all_goals (simp_all [chipE, chipBad, sizeK, sel])
    all_goals (intros; (repeat' split) <;> omega)
set_option maxHeartbeats 8000000 in
theorem rChipErr_ok : GoodF Tryz.prog 63 chipES.spec := by
  have hT := tab_ok (fs := [(61, nameS.spec)]) tree_ok
  have hP : SpecsOk Tryz.prog (tab tree [(61, nameS.spec)]) := specs_cons rNamed_ok specs_nil
  refine chipES.good (fn := Tryz.f63) hT hP Tryz.func63 (by kernel_rfl) rfl fun (c : Cv) hp => ?_
  obtain ⟨hb, hs, hl⟩ : cP c := hp _ rfl
  obtain ⟨cn, ck, cb, cs, cd⟩ := c
  obtain ⟨hs1, hs2⟩ : -9223372036854775808 ≤ cs ∧ cs ≤ 9223372036854775807 := hs
  clear hp hb hl
  have hcn : cpuStr = ⟨#[99, 112, 117]⟩ := rfl
  have htm : Int.tmod (cd.length : Int) 256 = ((cd.length % 256 : Nat) : Int) := by rw [Int.tmod_eq_emod_of_nonneg (by omega)]; omega
  rcases kinds ck with rfl | rfl | rfl | rfl | rfl | rfl | rfl | rfl | rfl | hx
  rotate_right
  · have h8 : ¬ (¬ ck < 0 ∧ ¬ ck > 8) := by omega
    repeat' first
      | (exfalso; exact h8 ⟨by assumption, by assumption⟩)
      | (refine Go.mk ?_; conv => whnf)
      | refine Need.go ?_ ?_
      | refine NilG.go (fun _ => ?_) (fun _ => ?_)
      | refine Br.dec (fun _ => ?_) (fun _ => ?_)
      | refine Br.go (fun _ => ?_) (fun _ => ?_)
      | refine draw_go hT hP mixed ?_
      | refine round_go hT hP ?_
    all_goals (try dsimp only [castL_eq] at *)
    all_goals clear hT hP
    all_goals (refine .mk [] [] _ rfl rfl rfl rfl rfl rfl (imm_int ?_))
    all_goals (show _ = chipE (cn, ck, cb, cs, cd))
    all_goals (unfold chipE)
    all_goals (dsimp only)
    all_goals (simp_all)
    all_goals (intros; omega)
  · repeat' first
      | (refine Go.mk ?_; conv => whnf)
      | refine Need.go ?_ ?_
      | refine NilG.go (fun _ => ?_) (fun _ => ?_)
      | refine Br.dec (fun _ => ?_) (fun _ => ?_)
      | refine Br.go (fun _ => ?_) (fun _ => ?_)
      | refine draw_go hT hP mixed ?_
      | refine round_go hT hP ?_
    all_goals (try dsimp only [castL_eq] at *)
    all_goals first
      | exact of_decide_eq_true rfl
      | skip
    all_goals clear hT hP
    all_goals (refine .mk [] [] _ rfl rfl rfl rfl rfl rfl (imm_int ?_))
    all_goals (show _ = chipE (cn, 0, cb, cs, cd))
    all_goals (simp_all [chipE, chipBad, sizeK, sel, imax_eq])
    all_goals (intros; (repeat' split) <;> first | omega | (have hz := List.length_pos_iff.2 (by assumption : cd ≠ []); omega))
  · repeat' first
      | (refine Go.mk ?_; conv => whnf)
      | refine Need.go ?_ ?_
      | refine NilG.go (fun _ => ?_) (fun _ => ?_)
      | refine Br.dec (fun _ => ?_) (fun _ => ?_)
      | refine Br.go (fun _ => ?_) (fun _ => ?_)
      | refine draw_go hT hP mixed ?_
      | refine round_go hT hP ?_
    all_goals (try dsimp only [castL_eq] at *)
    all_goals first
      | exact of_decide_eq_true rfl
      | skip
    all_goals clear hT hP
    all_goals (refine .mk [] [] _ rfl rfl rfl rfl rfl rfl (imm_int ?_))
    all_goals (show _ = chipE (cn, 1, cb, cs, cd))
    all_goals (simp_all [chipE, chipBad, sizeK, sel, imax_eq])
    all_goals (intros; (repeat' split) <;> first | omega | (have hz := List.length_pos_iff.2 (by assumption : cd ≠ []); omega))
  · repeat' first
      | (refine Go.mk ?_; conv => whnf)
      | refine Need.go ?_ ?_
      | refine NilG.go (fun _ => ?_) (fun _ => ?_)
      | refine Br.dec (fun _ => ?_) (fun _ => ?_)
      | refine Br.go (fun _ => ?_) (fun _ => ?_)
      | refine draw_go hT hP mixed ?_
      | refine round_go hT hP ?_
    all_goals (try dsimp only [castL_eq] at *)
    all_goals first
      | exact of_decide_eq_true rfl
      | skip
    all_goals clear hT hP
    all_goals (refine .mk [] [] _ rfl rfl rfl rfl rfl rfl (imm_int ?_))
    all_goals (show _ = chipE (cn, 2, cb, cs, cd))
    all_goals (simp_all [chipE, chipBad, sizeK, sel, imax_eq])
    all_goals (intros; (repeat' split) <;> first | omega | (have hz := List.length_pos_iff.2 (by assumption : cd ≠ []); omega))
  · repeat' first
      | (refine Go.mk ?_; conv => whnf)
      | refine Need.go ?_ ?_
      | refine NilG.go (fun _ => ?_) (fun _ => ?_)
      | refine Br.dec (fun _ => ?_) (fun _ => ?_)
      | refine Br.go (fun _ => ?_) (fun _ => ?_)
      | refine draw_go hT hP mixed ?_
      | refine round_go hT hP ?_
    all_goals (try dsimp only [castL_eq] at *)
    all_goals first
      | exact of_decide_eq_true rfl
      | skip
    all_goals clear hT hP
    all_goals (refine .mk [] [] _ rfl rfl rfl rfl rfl rfl (imm_int ?_))
    all_goals (show _ = chipE (cn, 3, cb, cs, cd))
    all_goals (simp_all [chipE, chipBad, sizeK, sel, imax_eq])
    all_goals (intros; (repeat' split) <;> first | omega | (have hz := List.length_pos_iff.2 (by assumption : cd ≠ []); omega))
  · repeat' first
      | (refine Go.mk ?_; conv => whnf)
      | refine Need.go ?_ ?_
      | refine NilG.go (fun _ => ?_) (fun _ => ?_)
      | refine Br.dec (fun _ => ?_) (fun _ => ?_)
      | refine Br.go (fun _ => ?_) (fun _ => ?_)
      | refine draw_go hT hP mixed ?_
      | refine round_go hT hP ?_
    all_goals (try dsimp only [castL_eq] at *)
    all_goals first
      | exact of_decide_eq_true rfl
      | skip
    all_goals clear hT hP
    all_goals (refine .mk [] [] _ rfl rfl rfl rfl rfl rfl (imm_int ?_))
    all_goals (show _ = chipE (cn, 4, cb, cs, cd))
    all_goals (simp_all [chipE, chipBad, sizeK, sel, imax_eq])
    all_goals (intros; (repeat' split) <;> first | omega | (have hz := List.length_pos_iff.2 (by assumption : cd ≠ []); omega))
  · repeat' first
      | (refine Go.mk ?_; conv => whnf)
      | refine Need.go ?_ ?_
      | refine NilG.go (fun _ => ?_) (fun _ => ?_)
      | refine Br.dec (fun _ => ?_) (fun _ => ?_)
      | refine Br.go (fun _ => ?_) (fun _ => ?_)
      | refine draw_go hT hP mixed ?_
      | refine round_go hT hP ?_
    all_goals (try dsimp only [castL_eq] at *)
    all_goals first
      | exact of_decide_eq_true rfl
      | skip
    all_goals clear hT hP
    all_goals (refine .mk [] [] _ rfl rfl rfl rfl rfl rfl (imm_int ?_))
    all_goals (show _ = chipE (cn, 5, cb, cs, cd))
    all_goals (simp_all [chipE, chipBad, sizeK, sel, imax_eq])
    all_goals (intros; (repeat' split) <;> first | omega | (have hz := List.length_pos_iff.2 (by assumption : cd ≠ []); omega))
  · repeat' first
      | (refine Go.mk ?_; conv => whnf)
      | refine Need.go ?_ ?_
      | refine NilG.go (fun _ => ?_) (fun _ => ?_)
      | refine Br.dec (fun _ => ?_) (fun _ => ?_)
      | refine Br.go (fun _ => ?_) (fun _ => ?_)
      | refine draw_go hT hP mixed ?_
      | refine round_go hT hP ?_
    all_goals (try dsimp only [castL_eq] at *)
    all_goals first
      | exact of_decide_eq_true rfl
      | skip
    all_goals clear hT hP
    all_goals (refine .mk [] [] _ rfl rfl rfl rfl rfl rfl (imm_int ?_))
    all_goals (show _ = chipE (cn, 6, cb, cs, cd))
    all_goals (simp_all [chipE, chipBad, sizeK, sel, imax_eq])
    all_goals (intros; (repeat' split) <;> first | omega | (have hz := List.length_pos_iff.2 (by assumption : cd ≠ []); omega))
  · repeat' first
      | (refine Go.mk ?_; conv => whnf)
      | refine Need.go ?_ ?_
      | refine NilG.go (fun _ => ?_) (fun _ => ?_)
      | refine Br.dec (fun _ => ?_) (fun _ => ?_)
      | refine Br.go (fun _ => ?_) (fun _ => ?_)
      | refine draw_go hT hP mixed ?_
      | refine round_go hT hP ?_
    all_goals (try dsimp only [castL_eq] at *)
    all_goals first
      | exact of_decide_eq_true rfl
      | skip
    all_goals clear hT hP
    all_goals (refine .mk [] [] _ rfl rfl rfl rfl rfl rfl (imm_int ?_))
    all_goals (show _ = chipE (cn, 7, cb, cs, cd))
    all_goals (simp_all [chipE, chipBad, sizeK, sel, imax_eq])
    all_goals (intros; (repeat' split) <;> first | omega | (have hz := List.length_pos_iff.2 (by assumption : cd ≠ []); omega))
  · repeat' first
      | (refine Go.mk ?_; conv => whnf)
      | refine Need.go ?_ ?_
      | refine NilG.go (fun _ => ?_) (fun _ => ?_)
      | refine Br.dec (fun _ => ?_) (fun _ => ?_)
      | refine Br.go (fun _ => ?_) (fun _ => ?_)
      | refine draw_go hT hP mixed ?_
      | refine round_go hT hP ?_
    all_goals (try dsimp only [castL_eq] at *)
    all_goals first
      | exact of_decide_eq_true rfl
      | skip
    all_goals clear hT hP
    all_goals (refine .mk [] [] _ rfl rfl rfl rfl rfl rfl (imm_int ?_))
    all_goals (show _ = chipE (cn, 8, cb, cs, cd))
    all_goals (simp_all [chipE, chipBad, sizeK, sel, imax_eq])
    all_goals (intros; (repeat' split) <;> first | omega | (have hz := List.length_pos_iff.2 (by assumption : cd ≠ []); omega))

end Go.Proofs.YtofgbclopbmlcaaGreat

/- New states of chips; a byte of RAM is read back. -/
namespace Go.Proofs.YtofgbclopbmlcaaGreat
open Go.Fw
set_option linter.unusedVariables false
set_option linter.unusedSimpArgs false
set_option linter.constructorNameAsVariable false
set_option maxRecDepth 100000

def freshF (c : Cv) : Dv := sel c.2.1 (memN c [], memM c c.2.2.2.2) ([0, 0, 0, 0], []) ([255, 0, 0], []) ([0, 0, 0, 0, 0, 0, 0, 0], []) ([2559, 0], List.replicate 32 0) (List.replicate 12 0, []) ([0, 0, 0, 0, 0, 0, 0, 0, 0, 0], dM c.2.2.2.2) ([], [])
theorem blk_dv {x y : Dv} (h : x = y) : [some (Blk.arr (.int .i64) x.1), some (Blk.arr (.int .u8) x.2)] = [some (Blk.arr (.int .i64) y.1), some (Blk.arr (.int .u8) y.2)] := by rw [h]
def cNewS : PSpec := ⟨[gC], fun (c, _) => (some (cP c), devM, [.arr (.int .i64) (freshF c).1, .arr (.int .u8) (freshF c).2])⟩
theorem memN_zero (c : Cv) (h : c.2.1 = 2) : memN c [] = [0] := by unfold memN; rw [if_pos h]; show [0 % bankI c] = [0]; rw [Int.zero_emod]
theorem cNew_ok : GoodF Tryz.prog 60 cNewS.spec := by
  have hT := tab_ok (fs := [(109, cBytesS.spec), (110, tnewOS.spec), (111, pnewOS.spec), (112, snewOS.spec), (113, vnewS.spec), (114, onewOS.spec), (115, dnewS.spec)]) tree_ok
  have hP : SpecsOk Tryz.prog (tab tree [(109, cBytesS.spec), (110, tnewOS.spec), (111, pnewOS.spec), (112, snewOS.spec), (113, vnewS.spec), (114, onewOS.spec), (115, dnewS.spec)]) := specs_cons cBytes_ok (specs_cons tnewO_ok (specs_cons pnewO_ok (specs_cons snewO_ok (specs_cons vnew_ok (specs_cons onewO_ok (specs_cons dnew_ok specs_nil))))))
  refine cNewS.good (fn := Tryz.f60) hT hP Tryz.func60 (by kernel_rfl) rfl fun (c : Cv) hp => ?_
  have hc : cP c := hp _ rfl
  clear hp
  obtain ⟨h6, h7⟩ := bytesI_in hc.2.2
  obtain ⟨cn, ck, cb, cs, cd⟩ := c
  have hl : cd.length ≤ 140737488355328 := Nat.le_trans hc.2.2 (by decide)
  rcases kinds ck with rfl | rfl | rfl | rfl | rfl | rfl | rfl | rfl | rfl | hx
  all_goals
    repeat' first
      | (refine Go.mk ?_; conv => whnf)
      | refine Need.go ?_ ?_
      | refine NilG.go (fun _ => ?_) (fun _ => ?_)
      | refine Br.dec (fun _ => ?_) (fun _ => ?_)
      | refine Br.go (fun _ => ?_) (fun _ => ?_)
      | refine draw_go hT hP mixed ?_
      | refine round_go hT hP ?_
    all_goals (try dsimp only [castL_eq] at *)
  all_goals first
    | exact hc.2.2
    | exact hl
    | (exfalso; omega)
    | exact ⟨rfl, h6, by omega, by omega⟩
    | skip
  · exact .le (Le.nilH 1 (.int .i64) _ _ rfl rfl rfl) (.mk [] [4, 2] _ rfl rfl rfl rfl rfl (blk_dv (x := ([], memM (cn, 0, cb, cs, cd) cd)) (y := freshF (cn, 0, cb, cs, cd)) rfl) rfl)
  · exact .le (Le.nilH 1 (.int .i64) _ _ rfl rfl rfl) (.mk [] [4, 2] _ rfl rfl rfl rfl rfl (blk_dv (x := ([], memM (cn, 1, cb, cs, cd) cd)) (y := freshF (cn, 1, cb, cs, cd)) rfl) rfl)
  · refine .mk [] [4, 2] _ rfl rfl rfl rfl rfl (blk_dv (x := ([0], memM (cn, 2, cb, cs, cd) cd)) (y := freshF (cn, 2, cb, cs, cd)) ?_) rfl
    show _ = (memN (cn, 2, cb, cs, cd) [], memM (cn, 2, cb, cs, cd) cd)
    rw [memN_zero _ rfl]
  · exact .mk [] [2, 3] _ rfl rfl rfl rfl rfl rfl rfl
  · exact .mk [] [2, 3] _ rfl rfl rfl rfl rfl rfl rfl
  · exact .mk [] [2, 3] _ rfl rfl rfl rfl rfl rfl rfl
  · exact .mk [] [2, 3] _ rfl rfl rfl rfl rfl rfl rfl
  · exact .mk [] [2, 3] _ rfl rfl rfl rfl rfl rfl rfl
  · exact .mk [] [2, 3] _ rfl rfl rfl rfl rfl rfl rfl
  · refine .le (Le.nilH 1 (.int .i64) _ _ rfl rfl rfl) (.le (Le.nilH 1 (.int .u8) _ _ rfl rfl rfl) (.mk [] [2, 3] _ rfl rfl rfl rfl rfl (blk_dv (x := ([], [])) (y := freshF (cn, ck, cb, cs, cd)) ?_) rfl))
    unfold freshF; rw [sel_x hx]

end Go.Proofs.YtofgbclopbmlcaaGreat



/- Chips read, written, given numbers and asked, whatever the kind: the law ChipActs. -/
namespace Go.Proofs.YtofgbclopbmlcaaGreat
open Go.Fw
set_option linter.unusedVariables false
set_option linter.unusedSimpArgs false
set_option linter.constructorNameAsVariable false
set_option maxRecDepth 100000

def shwF (c : Cv) (d : Dv) : Int := sel c.2.1 0 0 (land .i64 (d.1.getD 1 0 % 256) (d.1.getD 2 0 % 256)) (s6 d.1 * 256 + s7 d.1) (colorF (vM d.2) (vP d.1)) (ooutF d.1) (e1 d.1) 0
-- the program's side

end Go.Proofs.YtofgbclopbmlcaaGreat





/- States of chips stay within bounds; plain. -/
namespace Go.Proofs.YtofgbclopbmlcaaGreat
open Go.Fw
set_option linter.unusedVariables false
set_option linter.unusedSimpArgs false
set_option linter.constructorNameAsVariable false
set_option maxRecDepth 100000

/-- numbers of a state: in bounds, few -/
def numOk (l : List Int) : Prop := (∀ n ∈ l, i64P n) ∧ l.length ≤ 12
structure GoodD (c : Cv) (L : Nat) (d : Dv) : Prop where
  n : numOk d.1
  u : u8s d.2
  l : List.length d.2 ≤ max (List.length c.2.2.2.2 + 70000) L
theorem numOk.of {l : List Int} (h : ∀ n ∈ l, -1048576 ≤ n ∧ n ≤ 1048576) (h2 : l.length ≤ 12) : numOk l := ⟨fun n hn => by have := h n hn; unfold i64P; omega, h2⟩
theorem numOk.set {l : List Int} (h : numOk l) {v : Int} (hv : i64P v) (i : Nat) : numOk (l.set i v) := by
  refine ⟨fun n hn => ?_, by rw [List.length_set]; exact h.2⟩
  rcases List.mem_or_eq_of_mem_set hn with hn | rfl
  · exact h.1 n hn
  · exact hv
/-- a state of a chip in bounds -/
structure OkD (L : Nat) (d : Dv) : Prop where
  u : u8s d.2
  l : List.length d.2 ≤ L
end Go.Proofs.YtofgbclopbmlcaaGreat

/- Boards: which chip has an address. -/
namespace Go.Proofs.YtofgbclopbmlcaaGreat
open Go.Fw
set_option linter.unusedVariables false
set_option linter.unusedSimpArgs false
set_option linter.constructorNameAsVariable false
set_option maxRecDepth 100000

abbrev ChipT : Ty := .pair .str (.pair (.int .i64) (.pair (.int .i64) (.pair (.int .i64) (.sl (.int .u8)))))
abbrev WireT : Ty := .pair .str .str
abbrev Wr := ByteArray × ByteArray
abbrev BoardT : Ty := .pair .str (.pair CpuT (.pair (.sl ChipT) (.sl WireT)))
abbrev gBd : Sig := ⟨true, BoardT⟩
abbrev Bd := ByteArray × Cpu × List Cv × List Wr

/-- the number of the first one that is so; -1: none -/
def fstG {α : Type} (p : α → Bool) : List α → Nat → Int
  | [], _ => -1
  | x :: r, k => if p x = true then (k : Int) else fstG p r (k + 1)
def fstI {α : Type} (p : α → Bool) (l : List α) : Int := fstG p l 0
theorem dropD {α : Type} {l : List α} {k : Nat} (d : α) (h : k < l.length) : l.drop k = l.getD k d :: l.drop (k + 1) := by
  rw [List.drop_eq_getElem_cons h, List.getD_eq_getElem?_getD, List.getElem?_eq_getElem h]; rfl
theorem fstG_in {α : Type} {p : α → Bool} : ∀ {l : List α} {k : Nat}, fstG p l k = -1 ∨ ((k : Int) ≤ fstG p l k ∧ fstG p l k < k + l.length)
  | [], k => .inl rfl
  | x :: r, k => by
    unfold fstG
    by_cases h : p x = true
    · rw [if_pos h]; right; simp only [List.length_cons]; omega
    · rw [if_neg h]
      rcases fstG_in (p := p) (l := r) (k := k + 1) with h1 | h1
      · exact .inl h1
      · right; simp only [List.length_cons]; omega
theorem fstI_in {α : Type} (p : α → Bool) (l : List α) : fstI p l = -1 ∨ (0 ≤ fstI p l ∧ fstI p l < l.length) := by
  have := fstG_in (p := p) (l := l) (k := 0)
  unfold fstI
  simpa using this
theorem fst_hit {α : Type} {p : α → Bool} {l : List α} {k : Nat} (d : α) (h : k < l.length) (hp : p (l.getD k d) = true) {r : Int} (hi : fstG p (l.drop k) k = r) : (k : Int) = r := by
  rw [dropD d h, fstG, if_pos hp] at hi; exact hi
theorem fst_miss {α : Type} {p : α → Bool} {l : List α} {k : Nat} (d : α) (h : k < l.length) (hp : ¬ p (l.getD k d) = true) {r : Int} (hi : fstG p (l.drop k) k = r) : fstG p (l.drop (k + 1)) (k + 1) = r := by
  rw [dropD d h, fstG, if_neg hp] at hi; exact hi
theorem fst_none {α : Type} {p : α → Bool} {l : List α} {k : Nat} (h : ¬ k < l.length) {r : Int} (hi : fstG p (l.drop k) k = r) : -1 = r := by
  rw [List.drop_of_length_le (by omega)] at hi; exact hi
def ownB (a : Int) (c : Cv) : Bool := decide (c.2.2.1 ≤ a) && (decide (0 < c.2.2.2.1) && decide (a - c.2.2.1 < c.2.2.2.1))
def findF (b : Bd) (a : Int) : Int := fstI (ownB a) b.2.2.1
def atF (b : Bd) (a : Int) : Int := if 0 ≤ findF b a then a - (b.2.2.1.getD (findF b a).toNat (dflt ChipT)).2.2.1 else 0
def cI (c : Cv) : Prop := i64 c.2.2.1 ∧ i64 c.2.2.2.1
def bP (b : Bd) (a : Int) : Prop := b.2.2.1.length ≤ 4611686018427387904 ∧ i64 a ∧ ∀ c ∈ b.2.2.1, cI c
theorem memD' {α : Type} {l : List α} {k : Nat} (d : α) (h : k < l.length) : l.getD k d ∈ l := by
  rw [List.getD_eq_getElem?_getD, List.getElem?_eq_getElem h]; exact List.getElem_mem h
theorem u64w (x : Int) : IntKind.u64.wrap x = x % 18446744073709551616 := rfl
theorem hit_u {a b s : Int} (ha : i64 a) (hb : i64 b) (hs : i64 s) (h1 : a ≥ b) (h2 : s > 0) : (IntKind.u64.wrap (IntKind.u64.wrap a - IntKind.u64.wrap b) < IntKind.u64.wrap s) ↔ a - b < s := by
  unfold i64 at ha hb hs
  rw [u64w, u64w, u64w, u64w]
  omega
theorem tup3 {x x' y y' : Int} {b b' : Bool} (h1 : x = x') (h2 : y = y') (h3 : b = b') : AV.tup [I1 x, I1 y, .c (bv b)] = AV.tup [I1 x', I1 y', .c (bv b')] := by rw [h1, h2, h3]
def bfindS : PSpec := ⟨[gBd, gi], fun (b, a, _) => (some (bP b a), .tup [I1 (if 0 ≤ findF b a then findF b a else 0), I1 (atF b a), .c (bv (decide (0 ≤ findF b a)))], [])⟩
theorem bFind_ok : GoodF Tryz.prog 93 bfindS.spec := by
  have hT := tab_ok (fs := []) tree_ok
  have hP : SpecsOk Tryz.prog (tab tree []) := specs_nil
  refine bfindS.good (fn := Tryz.f93) hT hP Tryz.func93 (by kernel_rfl) rfl fun (b : Bd) (a : Int) hq => ?_
  obtain ⟨hl, ha, hc⟩ : bP b a := hq _ rfl
  obtain ⟨bn, bu, bc, bw⟩ := b
  have hl : bc.length ≤ 4611686018427387904 := hl
  have hc : ∀ c ∈ bc, cI c := hc
  clear hq
  repeat' first
    | (refine Go.mk ?_; conv => whnf)
    | refine Need.go ?_ ?_
    | refine NilG.go (fun _ => ?_) (fun _ => ?_)
    | refine Br.dec (fun _ => ?_) (fun _ => ?_)
    | refine Br.go (fun _ => ?_) (fun _ => ?_)
    | refine draw_go hT hP mixed ?_
    | refine round_go hT hP ?_
  refine up_go hT hP (A := Unit) bc.length (fun i _ => St.mk [.dead, I a, .dead, .dead, .dead, .dead, .dead, .dead, .dead, .dead, .cell (.ro ChipT bc), I bc.length, I i, .dead, .dead, .dead, .dead, .dead, .dead, .dead, .dead, .dead, .dead, .dead, .dead, .dead, .dead, .dead, .dead, .dead, .dead, .dead, .dead, .dead, .dead, .dead, .dead, .dead, .dead, .dead, .dead, .dead, .dead, .dead] [])
    (fun k _ => fstG (ownB a) (bc.drop k) k = fstI (ownB a) bc) () (Le.mk [] [] rfl rfl rfl ?_) rfl fun k _ hk hi => ?_
  · repeat' first | exact trivial | exact ⟨rfl, rfl⟩ | refine And.intro ?_ ?_
  repeat' first
    | (refine Go.mk ?_; conv => whnf)
    | refine Need.go ?_ ?_
    | refine NilG.go (fun _ => ?_) (fun _ => ?_)
    | refine Br.dec (fun _ => ?_) (fun _ => ?_)
    | refine Br.go (fun _ => ?_) (fun _ => ?_)
    | refine draw_go hT hP mixed ?_
    | refine round_go hT hP ?_
  all_goals (try dsimp only [castL_eq] at *)
  all_goals clear hT hP
  · rename_i g1
    have g1 : (k : Int) < (bc.length : Int) := g1
    show 0 ≤ (k : Int) ∧ (k : Int) < (bc.length : Int)
    omega
  · rename_i g1 g2 g3 g4
    have g1 : (k : Int) < (bc.length : Int) := g1
    have hlt : k < bc.length := by omega
    have hm := hc _ (memD' (dflt ChipT) hlt)
    have g2 : a ≥ (bc.getD k (dflt ChipT)).2.2.1 := g2
    have g3 : (bc.getD k (dflt ChipT)).2.2.2.1 > 0 := g3
    have g4 := (hit_u ha hm.1 hm.2 g2 g3).1 g4
    have hp : ownB a (bc.getD k (dflt ChipT)) = true := by
      unfold ownB; rw [decide_eq_true g2, decide_eq_true g3, decide_eq_true g4]; rfl
    have e := fst_hit (dflt ChipT) hlt hp hi
    have e1 : findF (bn, bu, bc, bw) a = (k : Int) := e.symm
    refine .mk [] [] _ rfl rfl rfl rfl rfl rfl (tup3 ?_ ?_ ?_)
    · show (k : Int) = if 0 ≤ findF (bn, bu, bc, bw) a then findF (bn, bu, bc, bw) a else 0
      rw [e1, if_pos (by omega)]
    · show IntKind.i64.wrap (a - (bc.getD k (dflt ChipT)).2.2.1) = atF (bn, bu, bc, bw) a
      unfold atF
      rw [e1, if_pos (by omega)]
      show _ = a - (bc.getD k (dflt ChipT)).2.2.1
      have h1 := ha.2
      have h2 := hm.1.1
      have h3 := hm.2.2
      unfold i64 at *
      exact w64 (by omega) (by omega)
    · show true = decide (0 ≤ findF (bn, bu, bc, bw) a)
      rw [e1]; exact (decide_eq_true (by omega)).symm
  · rename_i g1 g2 g3 g4
    have g1 : (k : Int) < (bc.length : Int) := g1
    have hlt : k < bc.length := by omega
    have hm := hc _ (memD' (dflt ChipT) hlt)
    have g2 : a ≥ (bc.getD k (dflt ChipT)).2.2.1 := g2
    have g3 : (bc.getD k (dflt ChipT)).2.2.2.1 > 0 := g3
    have g4 := fun z => g4 ((hit_u ha hm.1 hm.2 g2 g3).2 z)
    have hp : ¬ ownB a (bc.getD k (dflt ChipT)) = true := by
      unfold ownB; rw [decide_eq_false g4]; simp
    apply Exists.intro
    apply Exists.intro ()
    refine And.intro (And.intro ?lt146 (And.intro ?ei146 ?inv146)) (Le.mk [] [] rfl rfl ?hh146 ?ht146)
    case hh146 => exact rfl
    case ht146 => repeat' first | exact trivial | exact ⟨rfl, rfl⟩ | refine And.intro ?_ ?_
    case lt146 => omega
    case ei146 => exact up_i (by omega)
    exact fst_miss (dflt ChipT) hlt hp hi
  · rename_i g1 g2 g3
    have g1 : (k : Int) < (bc.length : Int) := g1
    have hlt : k < bc.length := by omega
    have g3 : ¬ (bc.getD k (dflt ChipT)).2.2.2.1 > 0 := g3
    have hp : ¬ ownB a (bc.getD k (dflt ChipT)) = true := by
      unfold ownB; rw [decide_eq_false g3]; simp
    apply Exists.intro
    apply Exists.intro ()
    refine And.intro (And.intro ?lt160 (And.intro ?ei160 ?inv160)) (Le.mk [] [] rfl rfl ?hh160 ?ht160)
    case hh160 => exact rfl
    case ht160 => repeat' first | exact trivial | exact ⟨rfl, rfl⟩ | refine And.intro ?_ ?_
    case lt160 => omega
    case ei160 => exact up_i (by omega)
    exact fst_miss (dflt ChipT) hlt hp hi
  · rename_i g1 g2
    have g1 : (k : Int) < (bc.length : Int) := g1
    have hlt : k < bc.length := by omega
    have g2 : ¬ a ≥ (bc.getD k (dflt ChipT)).2.2.1 := g2
    have hp : ¬ ownB a (bc.getD k (dflt ChipT)) = true := by
      unfold ownB; rw [decide_eq_false g2]; simp
    apply Exists.intro
    apply Exists.intro ()
    refine And.intro (And.intro ?lt174 (And.intro ?ei174 ?inv174)) (Le.mk [] [] rfl rfl ?hh174 ?ht174)
    case hh174 => exact rfl
    case ht174 => repeat' first | exact trivial | exact ⟨rfl, rfl⟩ | refine And.intro ?_ ?_
    case lt174 => omega
    case ei174 => exact up_i (by omega)
    exact fst_miss (dflt ChipT) hlt hp hi
  · rename_i g1
    have g1 : ¬ (k : Int) < (bc.length : Int) := g1
    have e := fst_none (by omega) hi
    have e1 : findF (bn, bu, bc, bw) a = -1 := e.symm
    refine .mk [] [] _ rfl rfl rfl rfl rfl rfl (tup3 ?_ ?_ ?_)
    · show 0 = if 0 ≤ findF (bn, bu, bc, bw) a then findF (bn, bu, bc, bw) a else 0
      rw [e1]; rfl
    · show 0 = atF (bn, bu, bc, bw) a
      unfold atF
      rw [e1]; rfl
    · show false = decide (0 ≤ findF (bn, bu, bc, bw) a)
      rw [e1]; rfl

def askK (k : Int) : Bool := decide (k = 3) || (decide (k = 5) || decide (k = 8))
def asksS : PSpec := ⟨[gi], fun (k, _) => (none, .cell (bv (askK k)), [])⟩
theorem bAsks_ok : GoodF Tryz.prog 122 asksS.spec := by
  have hT := tab_ok (fs := []) tree_ok
  have hP : SpecsOk Tryz.prog (tab tree []) := specs_nil
  refine asksS.good (fn := Tryz.f122) hT hP Tryz.func122 (by kernel_rfl) rfl fun (k : Int) _ => ?_
  repeat' first
    | (refine Go.mk ?_; conv => whnf)
    | refine Need.go ?_ ?_
    | refine NilG.go (fun _ => ?_) (fun _ => ?_)
    | refine Br.dec (fun _ => ?_) (fun _ => ?_)
    | refine Br.go (fun _ => ?_) (fun _ => ?_)
    | refine draw_go hT hP mixed ?_
    | refine round_go hT hP ?_
  all_goals (refine .mk [] [] _ rfl rfl rfl rfl rfl rfl (imm_bool ?_))
  all_goals (show _ = (decide (k = 3) || (decide (k = 5) || decide (k = 8))))
  all_goals clear hT hP
  all_goals (dsimp only [gi, Den] at *)
  all_goals (simp_all)
  all_goals (by_cases h : k = 8 <;> simp [h])
theorem rInterrupts_ok : GoodF Tryz.prog 56 asksS.spec := by
  have hT := tab_ok (fs := [(105, containsS.spec)]) tree_ok
  have hP : SpecsOk Tryz.prog (tab tree [(105, containsS.spec)]) := specs_cons contains_ok specs_nil
  refine asksS.good (fn := Tryz.f56) hT hP Tryz.func56 (by kernel_rfl) rfl fun (k : Int) _ => ?_
  repeat' first
    | (refine Go.mk ?_; conv => whnf)
    | refine Need.go ?_ ?_
    | refine NilG.go (fun _ => ?_) (fun _ => ?_)
    | refine Br.dec (fun _ => ?_) (fun _ => ?_)
    | refine Br.go (fun _ => ?_) (fun _ => ?_)
    | refine draw_go hT hP mixed ?_
    | refine round_go hT hP ?_
  all_goals first
    | exact of_decide_eq_true rfl
    | skip
  refine .mk [] [] _ rfl rfl rfl rfl rfl rfl (imm_bool ?_)
  show ([3, 5, 8].any fun a => decide (k = a)) = _
  simp only [List.any_cons, List.any_nil, Bool.or_false]
  rfl

end Go.Proofs.YtofgbclopbmlcaaGreat

/- Wires: which are so. -/
namespace Go.Proofs.YtofgbclopbmlcaaGreat
open Go.Fw
set_option linter.unusedVariables false
set_option linter.unusedSimpArgs false
set_option linter.constructorNameAsVariable false
set_option maxRecDepth 100000

theorem fstG_any {α : Type} (p : α → Bool) : ∀ (l : List α) (k : Nat), decide (fstG p l k ≥ 0) = l.any p
  | [], k => rfl
  | x :: r, k => by
    unfold fstG
    by_cases h : p x = true
    · rw [if_pos h, List.any_cons, h, decide_eq_true (by omega)]; rfl
    · rw [if_neg h, List.any_cons, fstG_any p r (k + 1)]
      have : p x = false := by simpa using h
      rw [this]; rfl
theorem fst_any {α : Type} (p : α → Bool) (l : List α) : decide (fstI p l ≥ 0) = l.any p := fstG_any p l 0
def irqS : ByteArray := ⟨#[46, 105, 114, 113]⟩
def cpuIrq : ByteArray := ⟨#[99, 112, 117, 46, 105, 114, 113]⟩
structure loX where
  l : List Wr
  d : ByteArray
structure heX where
  l : List Wr
  d : Cv
structure bfX where
  l : List Wr
  d : Cv
end Go.Proofs.YtofgbclopbmlcaaGreat

/- Lists compared; a wire looked for. -/
namespace Go.Proofs.YtofgbclopbmlcaaGreat
open Go.Fw
set_option linter.unusedVariables false
set_option linter.unusedSimpArgs false
set_option linter.constructorNameAsVariable false
set_option maxRecDepth 100000

theorem strEq_iff {x y : ByteArray} : strEq x y = true ↔ x = y := Lib.bytes_beq_iff x y
theorem denEq_iff {x y : Wr} : denEq WireT x y = true ↔ x = y := ⟨fun h => denEq_eq (u := WireT) rfl h, fun h => by subst h; show (strEq x.1 x.1 && strEq x.2 x.2) = true; rw [strEq_iff.2 rfl, strEq_iff.2 rfl]; rfl⟩

abbrev gWr : Sig := ⟨true, WireT⟩
def sameW (v w : Wr) : Bool := denEq WireT v w
def wIdxS : PSpec := ⟨[⟨false, .sl WireT⟩, gWr], fun (l, v, _) => (some (List.length l ≤ 4611686018427387904), I (fstI (sameW v) l), [])⟩
theorem wIdx_ok : GoodF Tryz.prog 106 wIdxS.spec := by
  have hT := tab_ok (fs := []) tree_ok
  have hP : SpecsOk Tryz.prog (tab tree []) := specs_nil
  refine wIdxS.good (fn := Tryz.f106) hT hP Tryz.func106 (by kernel_rfl) rfl fun (l : List Wr) (v : Wr) hq => ?_
  have hl : l.length ≤ 4611686018427387904 := hq _ rfl
  obtain ⟨va, vb⟩ := v
  clear hq
  repeat' first
    | (refine Go.mk ?_; conv => whnf)
    | refine Need.go ?_ ?_
    | refine NilG.go (fun _ => ?_) (fun _ => ?_)
    | refine Br.dec (fun _ => ?_) (fun _ => ?_)
    | refine Br.go (fun _ => ?_) (fun _ => ?_)
    | refine draw_go hT hP mixed ?_
    | refine round_go hT hP ?_
  refine up_go hT hP (A := Unit) l.length (fun i _ => St.mk [.cell (.ro WireT l), .dead, .dead, .cell (.ptr 0 0), .dead, .dead, .dead, I l.length, I i, .dead, .dead, .dead, .dead, .dead, .dead, .dead, .dead, .dead, .dead] [some (.var [.imm (.string va), .imm (.string vb)])])
    (fun k _ => fstG (sameW (va, vb)) (l.drop k) k = fstI (sameW (va, vb)) l) () (Le.mk [] [0] rfl rfl rfl ?_) rfl fun k _ hk hi => ?_
  · repeat' first | exact trivial | exact ⟨rfl, rfl⟩ | refine And.intro ?_ ?_
  repeat' first
    | (refine Go.mk ?_; conv => whnf)
    | refine Need.go ?_ ?_
    | refine NilG.go (fun _ => ?_) (fun _ => ?_)
    | refine Br.dec (fun _ => ?_) (fun _ => ?_)
    | refine Br.go (fun _ => ?_) (fun _ => ?_)
    | refine draw_go hT hP mixed ?_
    | refine round_go hT hP ?_
  all_goals clear hT hP
  · rename_i g1
    have g1 : (k : Int) < (l.length : Int) := g1
    show 0 ≤ (k : Int) ∧ (k : Int) < (l.length : Int)
    omega
  · rename_i g1 g2
    have g1 : (k : Int) < (l.length : Int) := g1
    exact .mk [] [] _ rfl rfl rfl rfl rfl rfl (imm_int (fst_hit (dflt WireT) (by omega) g2 hi))
  · rename_i g1 g2
    have g1 : (k : Int) < (l.length : Int) := g1
    have hp : ¬ sameW (va, vb) (l.getD k (dflt WireT)) = true := by
      have g2 : sameW (va, vb) (l.getD k (dflt WireT)) = false := g2
      rw [g2]; decide
    apply Exists.intro
    apply Exists.intro ()
    refine And.intro (And.intro ?lt249 (And.intro ?ei249 ?inv249)) (Le.mk [] [0] rfl rfl ?hh249 ?ht249)
    case hh249 => exact rfl
    case ht249 => repeat' first | exact trivial | exact ⟨rfl, rfl⟩ | refine And.intro ?_ ?_
    case lt249 => omega
    case ei249 => exact up_i (by omega)
    exact fst_miss (dflt WireT) (by omega) hp hi
  · rename_i g1
    have g1 : ¬ (k : Int) < (l.length : Int) := g1
    exact .mk [] [] _ rfl rfl rfl rfl rfl rfl (imm_int (fst_none (by omega) hi))
def wHasS : PSpec := ⟨[⟨false, .sl WireT⟩, gWr], fun (l, v, _) => (some (List.length l ≤ 4611686018427387904), .cell (bv (l.any (sameW v))), [])⟩
theorem wHas_ok : GoodF Tryz.prog 57 wHasS.spec := by
  have hT := tab_ok (fs := [(106, wIdxS.spec)]) tree_ok
  have hP : SpecsOk Tryz.prog (tab tree [(106, wIdxS.spec)]) := specs_cons wIdx_ok specs_nil
  refine wHasS.good (fn := Tryz.f57) hT hP Tryz.func57 (by kernel_rfl) rfl fun (l : List Wr) (v : Wr) hq => ?_
  have hl : l.length ≤ 4611686018427387904 := hq _ rfl
  obtain ⟨va, vb⟩ := v
  clear hq
  repeat' first
    | (refine Go.mk ?_; conv => whnf)
    | refine Need.go ?_ ?_
    | refine NilG.go (fun _ => ?_) (fun _ => ?_)
    | refine Br.dec (fun _ => ?_) (fun _ => ?_)
    | refine Br.go (fun _ => ?_) (fun _ => ?_)
    | refine draw_go hT hP mixed ?_
    | refine round_go hT hP ?_
  all_goals clear hT hP
  · exact hl
  · exact .mk [] [] _ rfl rfl rfl rfl rfl rfl (imm_bool (fst_any (sameW (va, vb)) l))

end Go.Proofs.YtofgbclopbmlcaaGreat

/- Boards: which pins are loose, which chips are heard. -/
namespace Go.Proofs.YtofgbclopbmlcaaGreat
open Go.Fw
set_option linter.unusedVariables false
set_option linter.unusedSimpArgs false
set_option linter.constructorNameAsVariable false
set_option maxRecDepth 100000

def bdP (b : Bd) : Prop := (b.2.2.1.length * 64 ≤ 140737488351232 ∧ b.2.2.2.length * 32 ≤ 140737488351232) ∧ ∀ c ∈ b.2.2.1, cP c ∧ c.1.size ≤ 140737488351232
end Go.Proofs.YtofgbclopbmlcaaGreat







/- States of machines: copied, compared. -/
namespace Go.Proofs.YtofgbclopbmlcaaGreat
open Go.Fw
set_option linter.unusedVariables false
set_option linter.unusedSimpArgs false
set_option linter.constructorNameAsVariable false
set_option maxRecDepth 100000

def machO (m : Mach) (b : Nat) : AV := .agg [iv .i64 m.1, .run .i64 9 m.2.1.1, iv .i64 m.2.1.2.1, iv .i64 m.2.1.2.2.1, bv m.2.1.2.2.2, .own b, iv .i64 m.2.2.2.1, iv .i64 m.2.2.2.2.1, iv .i64 m.2.2.2.2.2]
def okDs (l : List Dv) : Prop := l.length * 48 ≤ 140737488351232 ∧ ∀ x ∈ l, List.length x.1 * 8 ≤ 140737488351232 ∧ List.length x.2 * 1 ≤ 140737488351232
def mcopyS : PSpec := ⟨[gM], fun (m, _) => (some (okDs m.2.2.1), machO m 0, [.arr DevT m.2.2.1])⟩
theorem mcopy_ok : GoodF Tryz.prog 69 mcopyS.spec := by
  have hT := tab_ok (fs := [(71, clDevS.spec), (128, clIntS.spec), (129, clByteS.spec)]) tree_ok
  have hP : SpecsOk Tryz.prog (tab tree [(71, clDevS.spec), (128, clIntS.spec), (129, clByteS.spec)]) := specs_cons clDev_ok (specs_cons clInt_ok (specs_cons clByte_ok specs_nil))
  refine mcopyS.good (fn := Tryz.f69) hT hP Tryz.func69 (by kernel_rfl) rfl fun (m : Mach) hq => ?_
  obtain ⟨h1, h2⟩ : okDs m.2.2.1 := hq _ rfl
  clear hq
  obtain ⟨tm, ⟨r, op, at_, nmi⟩, ds, bd, ba, bdt⟩ := m
  have h1 : ds.length * 48 ≤ 140737488351232 := h1
  have h2 : ∀ x ∈ ds, List.length x.1 * 8 ≤ 140737488351232 ∧ List.length x.2 * 1 ≤ 140737488351232 := h2
  repeat' first
    | (refine Go.mk ?_; conv => whnf)
    | refine Need.go ?_ ?_
    | refine NilG.go (fun _ => ?_) (fun _ => ?_)
    | refine Br.dec (fun _ => ?_) (fun _ => ?_)
    | refine Br.go (fun _ => ?_) (fun _ => ?_)
    | refine draw_go hT hP mixed ?_
    | refine round_go hT hP ?_
  all_goals (try dsimp only [castL_eq] at *)
  · exact h1
  refine up_go hT hP (A := Unit) ds.length (fun i _ => St.mk [.dead, .cell (.ptr 0 0), .cell (.ptr 1 0), .dead, .dead, .dead, .dead, .dead, .dead, .dead, .cell (.own 2), I ds.length, I i, .dead, .dead, .dead, .dead, .dead, .dead, .dead, .dead, .dead, .dead, .dead, .dead, .dead, .dead, .dead, .dead, .dead]
      [some (.var [.imm (.int .i64 tm), .run .i64 9 r, .imm (.int .i64 op), .imm (.int .i64 at_), .imm (.bool nmi), .own 2, .imm (.int .i64 bd), .imm (.int .i64 ba), .imm (.int .i64 bdt)]),
       some (.var [.imm (.int .i64 0), .run .i64 9 (List.replicate 9 0), .imm (.int .i64 0), .imm (.int .i64 0), .imm (.bool false), .imm (.slice none 0 0), .imm (.int .i64 0), .imm (.int .i64 0), .imm (.int .i64 0)]), some (.arr DevT ds)])
    (fun k _ => True) () (Le.mk [] [0, 1, 2] rfl rfl ?_ ?_) trivial fun k _ hk _ => ?_
  · exact rfl
  · repeat' first | exact trivial | exact ⟨rfl, rfl⟩ | refine And.intro ?_ ?_
  repeat' first
    | (refine Go.mk ?_; conv => whnf)
    | refine Need.go ?_ ?_
    | refine NilG.go (fun _ => ?_) (fun _ => ?_)
    | refine Br.dec (fun _ => ?_) (fun _ => ?_)
    | refine Br.go (fun _ => ?_) (fun _ => ?_)
    | refine draw_go hT hP mixed ?_
    | refine round_go hT hP ?_
  all_goals (try dsimp only [castL_eq] at *)
  all_goals clear hT hP
  · rename_i g
    show 0 ≤ (k : Int) ∧ (k : Int) < (ds.length : Int)
    omega
  · rename_i g
    show k < ds.length
    omega
  · rename_i g
    exact (h2 _ (memD' (dflt DevT) (show k < ds.length by omega))).1
  · rename_i g
    exact (h2 _ (memD' (dflt DevT) (show k < ds.length by omega))).2
  · rename_i g
    show 0 ≤ (k : Int) ∧ (k : Int) < (ds.length : Int)
    omega
  · rename_i g
    show k < ds.length
    omega
  · rename_i g
    have g1 : (k : Int) < (ds.length : Int) := g
    apply Exists.intro
    apply Exists.intro ()
    refine And.intro (And.intro ?lt (And.intro ?ei trivial)) (Le.mk [] [0, 1, 2] rfl rfl ?hh ?ht)
    case hh => exact congrArg (fun z => [some (.var [.imm (.int .i64 tm), .run .i64 9 r, .imm (.int .i64 op), .imm (.int .i64 at_), .imm (.bool nmi), .own 2, .imm (.int .i64 bd), .imm (.int .i64 ba), .imm (.int .i64 bdt)]),
       some (.var [.imm (.int .i64 0), .run .i64 9 (List.replicate 9 0), .imm (.int .i64 0), .imm (.int .i64 0), .imm (.bool false), .imm (.slice none 0 0), .imm (.int .i64 0), .imm (.int .i64 0), .imm (.int .i64 0)]), some (Blk.arr DevT z)]) (setD_self ds k (dflt DevT))
    case ht => repeat' first | exact trivial | exact ⟨rfl, rfl⟩ | refine And.intro ?_ ?_
    case lt => omega
    case ei => exact up_i (by omega)
  · exact .mk [] [2] _ rfl rfl rfl rfl rfl rfl rfl

-- compared

end Go.Proofs.YtofgbclopbmlcaaGreat

