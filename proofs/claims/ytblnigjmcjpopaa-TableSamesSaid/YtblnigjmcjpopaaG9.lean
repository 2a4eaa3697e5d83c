/- Part 9 of the proof: Fw31 Fw32 TellW SamesW. No statement is handed in here; conditions: none. -/
import Derived.Test.YtblnigjmcjpopaaG6
import Derived.ChangeArms
import Derived.ChangeOld
import Derived.SizedLaws
import Derived.Carry
import Derived.OpenShut
import Derived.Test.YtblnigjmcjpopaaG8
/- What an argument that reads well is as typed data. -/
namespace Go.Fw
open Go.ChangeShapes Go.WideShapes
set_option linter.unusedVariables false
set_option linter.unusedSimpArgs false

def Wf : (u : Ty) → Den u → Prop
  | .int k, x => (Lit.int k x).wf = true
  | .ints k n, l => List.length l = n ∧ ∀ x ∈ (l : List Int), (Lit.int k x).wf = true
  | .bool, _ => True
  | .str, s => ByteArray.size s ≤ reachBytes
  | .sl t, l => List.length l * t.by_ ≤ reachBytes ∧ ∀ x ∈ (l : List (Den t)), Wf t x
  | .pair a b, x => Wf a x.1 ∧ Wf b x.2

theorem addr_add (a : Addr) (x y : Nat) : (a.add x).add y = a.add (x + y) := by
  unfold Addr.add
  split <;> split <;> simp_all [Nat.add_assoc]

/-- a measure of what an argument reads as -/
structure BulkLaw {H : Type} (bk : DataW H → Nat) (ba : List (DataW H) → Nat) : Prop where
  cons : ∀ d r, bk d + ba r ≤ ba (d :: r)
  one : ∀ d, 1 ≤ bk d
  sl : ∀ e s, ba e + 1 ≤ bk (.slice e s)
  ag : ∀ p, ba p ≤ bk (.agg p)
  st : ∀ b, b.length + 1 ≤ bk (.lit (.string b))
/-- the measure of typed data -/
def bd : (u : Ty) → Den u → Nat
  | .int _, _ => 1
  | .ints _ n, _ => n
  | .bool, _ => 1
  | .str, s => ByteArray.size s + 1
  | .sl t, l => (List.map (bd t) l).sum + 1
  | .pair a b, x => bd a x.1 + bd b x.2
theorem BulkLaw.len {H : Type} {bk : DataW H → Nat} {ba : List (DataW H) → Nat} (B : BulkLaw bk ba) : ∀ l, l.length ≤ ba l
  | [] => Nat.zero_le _
  | d :: r => by
    have h1 := B.cons d r
    have h2 := B.one d
    have h3 := B.len r
    simp only [List.length_cons]
    omega
def sumTo (B : Nat → Nat) : Nat → Nat
  | 0 => 0
  | n + 1 => sumTo B n + B n
theorem sumTo_succ (B : Nat → Nat) : ∀ n, sumTo B (n + 1) = B 0 + sumTo (fun i => B (i + 1)) n
  | 0 => by simp [sumTo]
  | n + 1 => by rw [sumTo, sumTo_succ B n, sumTo]; omega
theorem BulkLaw.sum {H : Type} {bk : DataW H → Nat} {ba : List (DataW H) → Nat} (B : BulkLaw bk ba) : ∀ l : List (DataW H), sumTo (fun i => bk (l.getD i .nil)) l.length ≤ ba l
  | [] => Nat.zero_le _
  | d :: r => by
    have h1 := B.cons d r
    have h2 := B.sum r
    rw [List.length_cons, sumTo_succ]
    simp only [List.getD_cons_zero, List.getD_cons_succ]
    omega
theorem bulk_size (H : Type) : BulkLaw (H := H) (fun d => SizeOf.sizeOf d) (fun l => SizeOf.sizeOf l) where
  cons := fun d r => by simp
  one := fun d => by cases d <;> simp <;> omega
  sl := fun e s => by simp; omega
  ag := fun p => by simp
  st := fun b => by
    have : ∀ b : List UInt8, b.length ≤ SizeOf.sizeOf b := by
      intro b
      induction b with
      | nil => simp
      | cons x r ih => simp; omega
    have := this b
    simp; omega

theorem rows_listB {α : Type} {R : α → List Value → Prop} {Q : α → Prop} {m : α → Nat} {B : Nat → Nat} {w : World} {a : Addr} {c : Nat} : ∀ (len : Nat), (∀ i, i < len → ∃ d r, R d r ∧ (Q d ∧ m d ≤ B i) ∧ r.length = c ∧ ∀ j, j < c → w.cell? ((a.add (i * c)).add j) = r[j]?) →
    ∃ (l : List α) (us : List Value), l.length = len ∧ ListRel R l us ∧ (∀ x ∈ l, Q x) ∧ us.length = len * c ∧ (∀ k u, us[k]? = some u → w.cell? (a.add k) = some u) ∧ (l.map m).sum ≤ sumTo B len
  | 0, _ => ⟨[], [], rfl, rfl, fun x h => (by cases h), by simp, fun k u h => (by simp at h), Nat.le_refl _⟩
  | len + 1, h => by
    obtain ⟨l, us, h1, h2, h3, h4, h5, h6⟩ := rows_listB len fun i hi => h i (by omega)
    obtain ⟨d, r, g1, ⟨g2, g5⟩, g3, g4⟩ := h len (by omega)
    refine ⟨l ++ [d], us ++ r, by simp [h1], h2.append ⟨r, [], by simp, g1, rfl⟩, fun x hx => ?_, by simp [h4, g3, Nat.add_mul], fun k u hk => ?_, by simp [sumTo]; omega⟩
    · rcases List.mem_append.1 hx with hx | hx
      · exact h3 x hx
      · simp at hx; subst hx; exact g2
    · rw [List.getElem?_append] at hk
      split at hk
      · exact h5 k u hk
      · have hlt := (List.getElem?_eq_some_iff.1 hk).1
        have := g4 (k - us.length) (by omega)
        rw [addr_add] at this
        have e : len * c + (k - us.length) = k := by omega
        rw [e] at this
        rw [this, hk]

section
variable {H : Type} {enc : TypeId × Value → H} {P : Program} {w : World} {sp : Nat → Bool} {held : Bool}

def inHeap (w : World) (g : Nat) : Prop := g < w.heap.size

theorem weights_mem {e : TypeId} {d : DataW H} {n : Nat} (hn : n ∈ DataW.weights P e d) : ∀ {l : List (DataW H)}, d ∈ l → n ∈ DataW.weightsAll P e l
  | [], h => by cases h
  | x :: l, h => by
    simp only [DataW.weightsAll, List.mem_append]
    rcases List.mem_cons.1 h with rfl | h
    · exact .inl hn
    · exact .inr (weights_mem hn h)

variable {bk : DataW H → Nat} {ba : List (DataW H) → Nat}
theorem fits_struct (B : BulkLaw bk ba) {g : Ty → TypeId → Bool} {n : Nat} (ih : ∀ {u : Ty} {t : TypeId} {cs : List Value} {x : DataW H × List MemPlace}, g u t = true → (∀ z ∈ DataW.weights P t x.1, z ≤ reachBytes) → DataW.trod enc P w 0 sp held n t cs = some x → ∃ d : Den u, CR w (inHeap w) u d cs ∧ Wf u d ∧ bd u d ≤ bk x.1) :
    ∀ (fs : List Field) (u : Ty) (off : Nat) (cs : List Value) (xs : List (DataW H × List MemPlace)), fitsF P g u fs off = true → off + u.size = cs.length → xs.length = fs.length → (∀ z ∈ DataW.weightsEach P (fs.map (·.type)) (xs.map (·.1)), z ≤ reachBytes) →
      (∀ (i : Nat) (f : Field), fs[i]? = some f → DataW.trod enc P w 0 sp held n f.type ((cs.drop f.offset).take (P.cellsOf f.type)) = xs[i]?) → ∃ d : Den u, CR w (inHeap w) u d (cs.drop off) ∧ Wf u d ∧ bd u d ≤ ba (xs.map (·.1))
  | [], u, off, cs, xs, h, _, _, _, _ => by simp [fitsF] at h
  | [f], u, off, cs, xs, h, hl, hxl, hz, hx => by
    simp only [fitsF, Bool.and_eq_true] at h
    obtain ⟨⟨h1, h2⟩, h3⟩ := h
    have h2 := Nat.eq_of_beq_eq_true h2
    have h3 := Nat.eq_of_beq_eq_true h3
    have := hx 0 f rfl
    have hlt : 0 < xs.length := by rw [hxl]; simp
    rw [List.getElem?_eq_getElem hlt, h2, h3, List.take_of_length_le (by simp; omega)] at this
    obtain ⟨d0, c0, w0, b0⟩ := ih h1 (fun z hz' => hz z (by
      cases xs with
      | nil => simp at hlt
      | cons y ys => simp only [List.map_cons, DataW.weightsEach, List.mem_append]; exact .inl hz')) this
    refine ⟨d0, c0, w0, ?_⟩
    cases xs with
    | nil => simp at hlt
    | cons y ys =>
      have := B.cons y.1 (ys.map (·.1))
      simp only [List.map_cons]
      simp only [List.getElem_cons_zero] at b0
      omega
  | f :: f' :: fs, u, off, cs, xs, h, hl, hxl, hz, hx => by
    unfold fitsF at h
    split at h
    · rename_i a b
      simp only [Bool.and_eq_true] at h
      obtain ⟨⟨⟨h1, h2⟩, h3⟩, h4⟩ := h
      have h2 := Nat.eq_of_beq_eq_true h2
      have h3 := Nat.eq_of_beq_eq_true h3
      have h0 := hx 0 f rfl
      have hlt : 0 < xs.length := by rw [hxl]; simp
      rw [List.getElem?_eq_getElem hlt, h2, h3] at h0
      have hz1 : ∀ z ∈ DataW.weights P f.type xs[0].1, z ≤ reachBytes := fun z hz' => hz z (by
        cases xs with
        | nil => simp at hlt
        | cons y ys => simp only [List.map_cons, DataW.weightsEach, List.mem_append]; exact .inl hz')
      have hz2 : ∀ z ∈ DataW.weightsEach P ((f' :: fs).map (·.type)) (xs.tail.map (·.1)), z ≤ reachBytes := fun z hz' => hz z (by
        cases xs with
        | nil => simp at hlt
        | cons y ys => rw [show ((f :: f' :: fs).map (·.type)) = f.type :: (f' :: fs).map (·.type) from rfl, show ((y :: ys).map (·.1)) = y.1 :: ys.map (·.1) from rfl, DataW.weightsEach, List.mem_append]; exact .inr hz')
      obtain ⟨d1, c1, w1, b1⟩ := ih h1 hz1 h0
      obtain ⟨d2, c2, w2, b2⟩ := fits_struct B ih (f' :: fs) b (off + a.size) cs xs.tail h4 (by simp only [Ty.size] at hl; omega) (by simp [hxl]) hz2 fun i g hg => by
        have := hx (i + 1) g (by simpa using hg)
        rw [this]
        cases xs with
        | nil => simp at hlt
        | cons y ys => simp
      refine ⟨(d1, d2), ⟨_, _, by rw [← List.drop_drop, List.take_append_drop], c1, c2⟩, ⟨w1, w2⟩, ?_⟩
      cases xs with
      | nil => simp at hlt
      | cons y ys =>
        have := B.cons y.1 (ys.map (·.1))
        simp only [List.map_cons, bd]
        simp only [List.getElem_cons_zero] at b1
        simp only [List.tail_cons] at b2
        omega
    · cases h

theorem trod_array {t e : TypeId} {m fuel : Nat} {cs : List Value} {x : DataW H × List MemPlace} (ht : P.underlying t = some (.array m e)) (h : DataW.trod enc P w 0 sp held fuel t cs = some x) :
    ∃ (xs : List (DataW H × List MemPlace)) (n : Nat), x.1 = .agg (xs.map (·.1)) ∧ cs.length = P.cellsOf t ∧ xs.length = m ∧ ∀ i, i < m → DataW.trod enc P w 0 sp held n e ((cs.drop (i * P.cellsOf e)).take (P.cellsOf e)) = xs[i]? := by
  cases fuel with
  | zero => simp [DataW.trod] at h
  | succ n =>
    unfold DataW.trod at h
    rw [ht] at h
    split at h <;> simp_all
    obtain ⟨hl, xs, hp, hd⟩ := h
    exact ⟨xs, by rw [← hd], by simpa using mapM_some_length hp, n, fun i hi => mapM_some_get hp i i (by simp [hi])⟩

theorem ints_of {k : IntKind} : ∀ (cs : List Value), (∀ i, i < cs.length → ∃ n : Int, cs[i]? = some (.int k n) ∧ (Lit.int k n).wf = true) → ∃ l : List Int, cs = l.map (.int k) ∧ ∀ x ∈ l, (Lit.int k x).wf = true
  | [], _ => ⟨[], rfl, fun x h => (by cases h)⟩
  | v :: cs, h => by
    obtain ⟨n, h1, h2⟩ := h 0 (by simp)
    simp at h1
    subst h1
    obtain ⟨l, rfl, h3⟩ := ints_of cs fun i hi => by simpa using h (i + 1) (by simpa using hi)
    refine ⟨n :: l, rfl, fun x hx => ?_⟩
    rcases List.mem_cons.1 hx with rfl | hx
    · exact h2
    · exact h3 x hx

theorem open_cr (B : BulkLaw bk ba) : ∀ (m : Nat) {u : Ty} {t : TypeId} {fuel : Nat} {cs : List Value} {x : DataW H × List MemPlace}, tyFits P m u t = true → (∀ z ∈ DataW.weights P t x.1, z ≤ reachBytes) → DataW.trod enc P w 0 sp held fuel t cs = some x → ∃ d : Den u, CR w (inHeap w) u d cs ∧ Wf u d ∧ bd u d ≤ bk x.1
  | 0, _, _, _, _, _, h, _, _ => by cases h
  | m + 1, u, t, fuel, cs, x, h, hz, hx => by
    unfold tyFits at h
    split at h
    · rename_i hu
      obtain ⟨b, rfl, _⟩ := DataW.trod_bool hu hx
      exact ⟨b, rfl, trivial, B.one _⟩
    · rename_i k k' hu
      simp only [decide_eq_true_eq] at h
      subst h
      obtain ⟨n, rfl, _, hw⟩ := DataW.trod_int hu hx
      exact ⟨n, rfl, hw, B.one _⟩
    · rename_i hu
      obtain ⟨s, rfl, rfl, hs⟩ := DataW.trod_string hu hx
      exact ⟨s, rfl, by show ByteArray.size s ≤ reachBytes; simpa using hz s.data.toList.length (by simp [DataW.weights]), by have := B.st s.data.toList; rw [Array.length_toList] at this; exact this⟩
    · rename_i e v hu
      simp only [Bool.and_eq_true] at h
      obtain ⟨⟨⟨h1, h2⟩, h3⟩, h4⟩ := h
      have h2 := Nat.eq_of_beq_eq_true h2
      have h3 : 1 ≤ v.size := by simpa using h3
      have h4 : v.by_ ≤ P.bytesOf e := by simpa using h4
      rcases DataW.trod_slice hu hx with ⟨rfl, _⟩ | ⟨a, len, cap, elems, rest, n, rfl, rfl, rfl, hb, hl, hm, hlen, hel, _, _⟩
      · exact ⟨[], ⟨_, rfl, none, 0, rfl, Nat.le_refl _, fun hne => absurd rfl hne⟩, ⟨by simp [Nat.zero_le], fun x hx => (by cases hx)⟩, B.one _⟩
      · have hw0 : ∀ d ∈ elems.map (·.1), ∀ z ∈ DataW.weights P e d, z ≤ reachBytes := fun d hd z hz' => hz z (by
          simp only [DataW.weights, hu, List.mem_cons, List.mem_append]
          exact .inr (.inl (weights_mem hz' hd)))
        have each : ∀ i, i < len → ∃ (d : Den v) (r : List Value), CR w (inHeap w) v d r ∧ (Wf v d ∧ bd v d ≤ bk ((elems.map (·.1)).getD i .nil)) ∧ r.length = v.size ∧ ∀ j, j < v.size → w.cell? ((a.add (i * v.size)).add j) = r[j]? := by
          intro i hi
          have := hel i hi
          rw [List.getElem?_eq_getElem (by omega), h2] at this
          obtain ⟨r, hr, ht⟩ := Option.bind_eq_some_iff.1 this
          obtain ⟨_, hrl, hrc⟩ := World.cells?_some hr
          obtain ⟨d, c1, w1, b1⟩ := open_cr B m h1 (hw0 _ (List.mem_map_of_mem (List.getElem_mem (by omega)))) ht
          exact ⟨d, r, c1, ⟨w1, by rw [List.getD_eq_getElem?_getD, List.getElem?_map, List.getElem?_eq_getElem (by omega)]; exact b1⟩, hrl, hrc⟩
        obtain ⟨l, us, e1, e2, e3, e4, e5, e6⟩ := rows_listB (B := fun i => bk ((elems.map (·.1)).getD i .nil)) len each
        refine ⟨l, ⟨_, rfl, some a, cap, by rw [e1], by omega, fun hne => ⟨a, us, rfl, ?_, e2, e5⟩⟩, ⟨?_, e3⟩, ?_⟩
        rotate_left
        · have := hz ((elems.length + rest.length) * P.bytesOf e) (by simp [DataW.weights, hu])
          have k1 : l.length * v.by_ ≤ (elems.length + rest.length) * P.bytesOf e := Nat.mul_le_mul (by omega) h4
          exact Nat.le_trans k1 this
        · have k1 := B.sum (elems.map (·.1))
          rw [List.length_map, show elems.length = len by omega] at k1
          have k2 := B.sl (elems.map (·.1)) (rest.map (·.1))
          simp only [bd]
          exact Nat.le_trans (Nat.succ_le_succ (Nat.le_trans e6 k1)) k2
        have hlen0 : 0 < len := by
          rw [← e1]
          exact List.length_pos_iff.2 hne
        have := hel 0 hlen0
        rw [List.getElem?_eq_getElem (by omega), h2] at this
        obtain ⟨r, hr, _⟩ := Option.bind_eq_some_iff.1 this
        have hb := World.cells?_block hr (by omega)
        have hbl : (a.add (0 * v.size)).block = a.block := by unfold Addr.add; split <;> rfl
        rw [hbl] at hb
        exact hb
    · rename_i u F hu
      rw [Bool.and_eq_true] at h
      obtain ⟨xs, n, rfl, rfl, hl, hxl, hf⟩ := DataW.trod_struct hu hx
      have hz' : ∀ z ∈ DataW.weightsEach P (F.toList.map (·.type)) (xs.map (·.1)), z ≤ reachBytes := fun z h => hz z (by simp only [DataW.weights, hu]; exact h)
      have h2 := Nat.eq_of_beq_eq_true h.2
      have := fits_struct B (g := tyFits P m) (fun h1 h2 h3 => open_cr B m h1 h2 h3) F.toList _ 0 cs xs h.1 (by omega) (by simpa using hxl) hz' fun i f hi => hf i f (by rw [← Array.getElem?_toList]; exact hi)
      obtain ⟨d, c1, w1, b1⟩ := this
      exact ⟨d, by simpa using c1, w1, Nat.le_trans b1 (B.ag _)⟩
    · rename_i hu
      split at h
      · rename_i k' he
        simp only [Bool.and_eq_true, decide_eq_true_eq] at h
        obtain ⟨⟨⟨rfl, h2⟩, h3⟩, h4⟩ := h
        have h2 := Nat.eq_of_beq_eq_true h2
        have h3 := Nat.eq_of_beq_eq_true h3
        have h4 := Nat.eq_of_beq_eq_true h4
        obtain ⟨xs, n, hx1, hl, hxl, hf⟩ := trod_array hu hx
        obtain ⟨l, rfl, hw⟩ := ints_of cs fun i hi => by
          have := hf i (by omega)
          rw [h3, List.getElem?_eq_getElem (by omega)] at this
          obtain ⟨z, hz, _, hwz⟩ := DataW.trod_int he this
          refine ⟨z, ?_, hwz⟩
          have := congrArg (·[0]?) hz
          simpa [List.getElem?_take] using this
        exact ⟨l, ⟨by simp at hl; omega, rfl⟩, ⟨by simp at hl; omega, hw⟩, by rw [hx1]; have k := B.len (xs.map (·.1)); rw [List.length_map] at k; simp only [bd]; have k2 := B.ag (xs.map (·.1)); omega⟩
      · cases h
    · cases h
end

end Go.Fw

/- The arguments of a law: from what they read as to data, and back behind the call. -/
namespace Go.Fw
open Go.ChangeShapes Go.WideShapes Go.RowKit
set_option linter.unusedVariables false
set_option linter.unusedSimpArgs false

def sigFits (P : Program) (m : Nat) (g : Sig) (t : TypeId) : Bool := tyFits P m g.t t && match P.underlying t with
  | some (.struct _) => g.ag
  | some (.int _) => !g.ag
  | some .bool => !g.ag
  | some .string => !g.ag
  | some (.slice _) => !g.ag
  | some (.array _ _) => g.ag
  | _ => false
def sigsFit (P : Program) (m : Nat) : List Sig → List TypeId → Bool
  | [], [] => true
  | g :: gs, t :: ts => sigFits P m g t && sigsFit P m gs ts
  | _, _ => false
def WfA : (gs : List Sig) → Args gs → Prop
  | [], _ => True
  | g :: gs, x => Wf g.t x.1 ∧ WfA gs x.2

section
variable {H : Type} {enc : TypeId × Value → H} {P : Program} {w : World} {base : Nat}

theorem one_cell {v u : Value} (h : v.cells.toList = [u]) (hv : ∀ cs, v ≠ .agg cs) : v = u := by
  cases v with
  | agg cs => exact absurd rfl (hv cs)
  | _ => simpa [Value.cells] using h

theorem CR.one {w : World} {S : Nat → Prop} {t : Ty} {d : Den t} {v : Value} (hc : CR w S t d [v]) (h : (cells t d).length = 1) (E : Env) (hw : E.w = w) (hS : E.S = S) : ∃ c, cells t d = [c] ∧ CellR E c [v] := by
  subst hw; subst hS
  have := hc.items
  match hh : cells t d, h with
  | [c], _ =>
    rw [hh] at this
    obtain ⟨r, s, e, h1, h2⟩ := this
    simp only [IR] at h2
    subst h2
    simp at e
    subst e
    exact ⟨c, rfl, h1⟩

variable {bk : DataW H → Nat} {ba : List (DataW H) → Nat}
theorem v1_open (B : BulkLaw bk ba) {m fuel : Nat} {g : Sig} {t : TypeId} {v : Value} {x : DataW H × List MemPlace} (hf : sigFits P m g t = true) (hv : Value.okWide P w .any base t v) (hz : ∀ z ∈ DataW.weights P t x.1, z ≤ reachBytes)
    (h : DataW.trod enc P w 0 (fun _ => true) true fuel t v.cells.toList = some x) : ∃ d : Den g.t, V1R (startE w) (canonV g d) v ∧ Wf g.t d ∧ bd g.t d ≤ bk x.1 := by
  unfold sigFits at hf
  rw [Bool.and_eq_true] at hf
  obtain ⟨h1, h2⟩ := hf
  obtain ⟨d, hc, hw, hb⟩ := open_cr B m h1 hz h
  refine ⟨d, ?_, hw, hb⟩
  have single : ∀ u, v = u → (∀ cs, v ≠ .agg cs) → g.ag = false → (cells g.t d).length = 1 → V1R (startE w) (canonV g d) v := by
    intro u e hn hg hl
    have hcl : v.cells.toList = [v] := by
      cases v with
      | agg cs => exact absurd rfl (hn cs)
      | _ => rfl
    rw [hcl] at hc
    obtain ⟨c, e1, e2⟩ := hc.one hl (startE w) rfl rfl
    unfold canonV
    rw [hg]
    simp only [e1]
    exact e2
  cases m with
  | zero => cases h1
  | succ m =>
  unfold tyFits at h1
  split at h2
  · rename_i F hu
    obtain ⟨cs, rfl, _⟩ := okWide_struct hu hv
    unfold canonV
    rw [h2]
    exact ⟨cs, rfl, hc.items (E := startE w)⟩
  · rename_i k hu
    obtain ⟨n, rfl⟩ := okWide_int hu hv
    refine single _ rfl (by simp) (by simpa using h2) ?_
    rw [hu] at h1
    match g, d, h1 with
    | ⟨_, .int _⟩, _, _ => rfl
  · rename_i hu
    obtain ⟨n, rfl⟩ := okWide_bool hu hv
    refine single _ rfl (by simp) (by simpa using h2) ?_
    rw [hu] at h1
    match g, d, h1 with
    | ⟨_, .bool⟩, _, _ => rfl
  · rename_i hu
    obtain ⟨n, rfl⟩ := okWide_string hu hv
    refine single _ rfl (by simp) (by simpa using h2) ?_
    rw [hu] at h1
    match g, d, h1 with
    | ⟨_, .str⟩, _, _ => rfl
  · rename_i e hu
    obtain ⟨a, len, cap, rfl⟩ := okWide_slice hu hv
    refine single _ rfl (by simp) (by simpa using h2) ?_
    rw [hu] at h1
    match g, d, h1 with
    | ⟨_, .sl _⟩, _, _ => rfl
  · rename_i n e hu
    obtain ⟨cs, rfl⟩ : ∃ cs, v = .agg cs := by
      simp only [Value.okWide, hu] at hv
      obtain ⟨cs, h1, _⟩ := hv
      exact ⟨cs, h1⟩
    unfold canonV
    rw [h2]
    exact ⟨cs, rfl, hc.items (E := startE w)⟩
  · cases h2

def bdA : (gs : List Sig) → Args gs → Nat
  | [], _ => 0
  | g :: gs, x => bd g.t x.1 + bdA gs x.2
theorem args_open (B : BulkLaw bk ba) {m : Nat} {vt : List TypeId} {gds : List (DataW H)} : ∀ {gs : List Sig} {ts : List TypeId} {vs : List Value} {ds : List (DataW H)} {ps : List MemPlace}, sigsFit P m gs ts = true →
    (∀ (j : Nat) t v, ts[j]? = some t → vs[j]? = some v → Value.okWide P w .any base t v) → (∀ z ∈ DataW.weightsEach P (ts ++ vt) (ds ++ gds), z ≤ reachBytes) →
    DataW.TrodAll enc P w 0 (fun _ => true) true ts vs ds ps → ∃ xs : Args gs, VsR (startE w) (canonArgs gs xs) vs ∧ WfA gs xs ∧ bdA gs xs ≤ ba ds
  | [], [], vs, ds, ps, _, _, _, h => by
    obtain ⟨rfl, rfl, rfl⟩ := trodAll_nil h
    exact ⟨(), rfl, trivial, Nat.zero_le _⟩
  | g :: gs, t :: ts, vs, ds, ps, hf, hv, hz, h => by
    unfold sigsFit at hf
    rw [Bool.and_eq_true] at hf
    obtain ⟨v, vs', d, ds', p, q, rfl, rfl, rfl, ⟨fuel, h1⟩, h2⟩ := trodAll_cons h
    rw [List.cons_append, List.cons_append, DataW.weightsEach] at hz
    obtain ⟨x, hx, wx, bx⟩ := v1_open B (x := (d, p)) hf.1 (hv 0 t v rfl rfl) (fun z hz' => hz z (List.mem_append.2 (.inl hz'))) h1
    obtain ⟨xs, hxs, wxs, bxs⟩ := args_open B hf.2 (fun j t v ht hvj => hv (j + 1) t v (by simpa using ht) (by simpa using hvj)) (fun z hz' => hz z (List.mem_append.2 (.inr hz'))) h2
    exact ⟨(x, xs), VsR.cons hx hxs, ⟨wx, wxs⟩, Nat.le_trans (Nat.add_le_add bx bxs) (B.cons _ _)⟩
  | [], _ :: _, _, _, _, hf, _, _, _ => by cases hf
  | _ :: _, [], _, _, _, hf, _, _, _ => by cases hf

theorem dec_cells {look : Nat → Option Blk} : ∀ (t : Ty) (x : Den t) (r : List Cell), dec look t (cells t x ++ r) = some (x, [], r)
  | .int k, x, r => by simp [cells, dec]
  | .ints k n, l, r => by simp [cells, dec]
  | .bool, b, r => rfl
  | .str, s, r => rfl
  | .sl t, l, r => by
    have : slAs look t (.ro t l) = some l := by
      unfold slAs
      simp only [sliceOf, eqTy, dif_pos, castL]
    simp only [cells, List.cons_append, List.nil_append, dec, this, frzN]
  | .pair a b, x, r => by
    simp only [cells, dec, List.append_assoc, dec_cells a x.1, dec_cells b x.2, List.append_nil]

theorem decAll_cells {look : Nat → Option Blk} (t : Ty) (x : Den t) : decAll look t (cells t x) = some (x, []) := by
  unfold decAll
  have := dec_cells (look := look) t x []
  rw [List.append_nil] at this
  rw [this]

def Sig.fine (g : Sig) : Bool := g.ag || match g.t with | .int _ => true | .bool => true | .str => true | .sl _ => true | _ => false
theorem decV_canon {g : Sig} (h : g.fine = true) (d : Den g.t) : decV g (canonV g d) = some d := by
  obtain ⟨ag, t⟩ := g
  cases ag with
  | true =>
    unfold decV canonV
    simp only [decAll_cells]
  | false =>
    have one : ∃ c, cells t d = [c] := by
      cases t <;> simp [Sig.fine] at h <;> exact ⟨_, rfl⟩
    obtain ⟨c, hc⟩ := one
    have e : canonV ⟨false, t⟩ d = .c c := by unfold canonV; simp only [hc]
    have e2 : decAll (fun _ => none) t [c] = some (d, []) := by rw [← hc]; exact decAll_cells t d
    unfold decV
    simp only [e, e2, hc]
theorem decArgs_canon : ∀ {gs : List Sig} (h : gs.all Sig.fine = true) (xs : Args gs), decArgs gs (canonArgs gs xs) = some xs
  | [], _, () => rfl
  | g :: gs, h, (a, r) => by
    rw [List.all_cons, Bool.and_eq_true] at h
    show (match decV g (canonV g a) with | some d => (match decArgs gs (canonArgs gs r) with | some r => some (d, r) | none => none) | none => none) = _
    rw [decV_canon h.1, decArgs_canon h.2]

def rowsFine (P : Program) (ts : List TypeId) : Bool := ts.all fun t => P.readableRec t && Nat.blt t P.types.size
theorem args_back {W W' : World} (hl : laidOutB P = true) (hb : Below W.heap.size W W') : ∀ {ts : List TypeId} {vs : List Value} {ds : List (DataW H)} {ps : List MemPlace}, rowsFine P ts = true → (∀ x ∈ ps, x.block < W.heap.size) →
    DataW.TrodAll enc P W 0 (fun _ => true) true ts vs ds ps → DataW.TrodAll enc P W' 0 (fun b => decide (b < W.heap.size)) true ts vs ds ps
  | [], vs, ds, ps, _, _, h => by
    obtain ⟨rfl, rfl, rfl⟩ := trodAll_nil h
    exact trodAll_mk0
  | t :: ts, vs, ds, ps, hf, hlt, h => by
    unfold rowsFine at hf
    rw [List.all_cons, Bool.and_eq_true, Bool.and_eq_true] at hf
    obtain ⟨v, vs', d, ds', p, q, rfl, rfl, rfl, h1, h2⟩ := trodAll_cons h
    exact trodAll_cons_mk (Below.trod hl hf.1.1 (by simpa [Nat.blt_eq] using hf.1.2) h1 hb fun x hx => hlt x (List.mem_append.2 (.inl hx))) (args_back hl hb hf.2 (fun x hx => hlt x (List.mem_append.2 (.inr hx))) h2)
end

/-- a law that is true, over arguments of any kind -/
theorem PSpec.law_all {P : Program} {H : Type} {enc : TypeId × Value → H} {f : FuncId} {s : PSpec} (h : Good P f s.spec) {W : World} {base m : Nat} {ts vt : List TypeId} {args : Array Value} {ds gds : List (DataW H)} {p : List MemPlace}
    (hfit : sigsFit P m s.gs ts = true) (hfine : s.gs.all Sig.fine = true) (hrow : rowsFine P ts = true) (hl : laidOutB P = true)
    (hval : ∀ (j : Nat) t v, ts[j]? = some t → args.toList[j]? = some v → Value.okWide P W .any base t v)
    (hz : (DataW.weightsEach P (ts ++ vt) (ds ++ gds)).all (· ≤ reachBytes) = true) (hA : DataW.TrodAll enc P W 0 (fun _ => true) true ts args.toList ds p)
    (hs : ∀ xs, WfA s.gs xs → ∃ q, s.out xs = (q, .cell (bv true), []) ∧ ∀ z, q = some z → z) :
    Calls P f args W fun e w' => e = .returned (.bool true) ∧ Below W.heap.size W w' ∧ DataW.TrodAll enc P w' 0 (fun b => decide (b < W.heap.size)) true ts args.toList ds p := by
  obtain ⟨xs, hv, hw, _⟩ := args_open (bulk_size H) hfit hval (fun z hz' => by simpa using List.all_eq_true.1 hz z hz') hA
  obtain ⟨q, h1, h2⟩ := hs xs hw
  refine (PSpec.law h xs hv (decArgs_canon hfine xs) h1 h2).mono fun e W' ⟨he, hb⟩ => ⟨he, hb, ?_⟩
  exact args_back hl hb hrow (DataW.TrodAll.lt hA) hA

/-- a law that is true, over arguments of any kind up to a bulk -/
theorem PSpec.law_upto {P : Program} {H : Type} {enc : TypeId × Value → H} {f : FuncId} {s : PSpec} (h : Good P f s.spec) {W : World} {base m N : Nat} {ts vt : List TypeId} {args : Array Value} {ds gds : List (DataW H)} {p : List MemPlace}
    {bk : DataW H → Nat} {ba : List (DataW H) → Nat} (B : BulkLaw bk ba) (hN : ba ds ≤ N)
    (hfit : sigsFit P m s.gs ts = true) (hfine : s.gs.all Sig.fine = true) (hrow : rowsFine P ts = true) (hl : laidOutB P = true)
    (hval : ∀ (j : Nat) t v, ts[j]? = some t → args.toList[j]? = some v → Value.okWide P W .any base t v)
    (hz : (DataW.weightsEach P (ts ++ vt) (ds ++ gds)).all (· ≤ reachBytes) = true) (hA : DataW.TrodAll enc P W 0 (fun _ => true) true ts args.toList ds p)
    (hs : ∀ xs, WfA s.gs xs → bdA s.gs xs ≤ N → ∃ q, s.out xs = (q, .cell (bv true), []) ∧ ∀ z, q = some z → z) :
    Calls P f args W fun e w' => e = .returned (.bool true) ∧ Below W.heap.size W w' ∧ DataW.TrodAll enc P w' 0 (fun b => decide (b < W.heap.size)) true ts args.toList ds p := by
  obtain ⟨xs, hv, hw, hbd⟩ := args_open B hfit hval (fun z hz' => by simpa using List.all_eq_true.1 hz z hz') hA
  obtain ⟨q, h1, h2⟩ := hs xs hw (Nat.le_trans hbd hN)
  refine (PSpec.law h xs hv (decArgs_canon hfine xs) h1 h2).mono fun e W' ⟨he, hb⟩ => ⟨he, hb, ?_⟩
  exact args_back hl hb hrow (DataW.TrodAll.lt hA) hA

end Go.Fw

/- What a processor that reads well, up to a bulk, keeps to. -/
namespace Go.Proofs.Ytblnigjmcjpopaa
open Go.Fw
set_option linter.unusedVariables false
set_option linter.unusedSimpArgs false
theorem sum_mem {α : Type} (m : α → Nat) : ∀ {l : List α} {x : α}, x ∈ l → m x ≤ (l.map m).sum
  | [], _, h => by cases h
  | y :: r, x, h => by
    rw [List.map_cons, List.sum_cons]
    rcases List.mem_cons.1 h with rfl | h
    · omega
    · have := sum_mem m h; omega
theorem sum_len {α : Type} (m : α → Nat) (hm : ∀ x, 1 ≤ m x) : ∀ l : List α, l.length ≤ (l.map m).sum
  | [] => Nat.le_refl _
  | y :: r => by
    rw [List.map_cons, List.sum_cons, List.length_cons]
    have := sum_len m hm r
    have := hm y
    omega
theorem bd_stp (s : Stp) : 1 ≤ bd StepT s := by show 1 ≤ 1 + (1 + (1 + 1)); omega
theorem bd_cyc (x : Cyc) : bd CycT x = 1 + (1 + (1 + ((List.map (bd StepT) x.2.2.2).sum + 1))) := rfl
theorem bd_ins (x : Ins) : bd InsT x = 1 + ((ByteArray.size x.2.1 + 1) + (1 + ((List.map (bd CycT) x.2.2.2).sum + 1))) := rfl
theorem okCyc_of {l : List Cyc} (h : Wf (.sl CycT) l) : okCyc l := ⟨h.1, fun x hx => (h.2 x hx).2.2.2.1⟩
theorem cpuP_of {c : Cpu} (h : Wf CpuT c) : cpuOk c ∧ (okCyc c.2.2.1 ∧ okCyc c.2.2.2.1 ∧ okCyc c.2.2.2.2) :=
  ⟨⟨h.2.1.1, fun x hx => okCyc_of (h.2.1.2 x hx).2.2.2⟩, okCyc_of h.2.2.1, okCyc_of h.2.2.2.1, okCyc_of h.2.2.2.2⟩
theorem tellP_of {c : Cpu} {k : Kor} (hk : k.1.length = 9) (h : Wf CpuT c) : tellP c k := ⟨(cpuP_of h).1, (cpuP_of h).2, hk⟩
theorem tl_pre (xs : Args tlS.gs) (hw : WfA tlS.gs xs) : tellP xs.1 xs.2.1 := tellP_of hw.2.1.1.1 hw.1

end Go.Proofs.Ytblnigjmcjpopaa

/- What processors that read well keep to. -/
namespace Go.Proofs.Ytblnigjmcjpopaa
open Go.Fw
set_option linter.unusedVariables false
set_option linter.unusedSimpArgs false
theorem ts_pre (xs : Args tsS.gs) (hw : WfA tsS.gs xs) : tsP xs.1 ∧ tsP xs.2.1 := ⟨cpuP_of hw.1, cpuP_of hw.2.1⟩

end Go.Proofs.Ytblnigjmcjpopaa

