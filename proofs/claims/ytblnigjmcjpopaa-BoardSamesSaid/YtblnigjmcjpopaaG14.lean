/- Part 14 of the proof: Fw32 KindW BoardW TellW BoardSameW. No statement is handed in here; conditions: none. -/
import Derived.Test.YtblnigjmcjpopaaG11
import Derived.Carry
import Derived.OpenShut
import Derived.Test.YtblnigjmcjpopaaG13
import Derived.Test.YtblnigjmcjpopaaG10
/- The arguments of a law: from what they read as to data, and back behind the call. -/
namespace Go.Fw
open Go.ChangeShapes Go.WideShapes Go.RowKit
set_option linter.unusedVariables false
set_option linter.unusedSimpArgs false

def sigFits (P : Program) (m : Nat) (g : Sig) (t : TypeId) : Bool := tyFits P m g.t t && match P.underlying t with
  | some (.struct _) => g.ag
  | some (.int _) => !g.ag
  | some .bool => !g.ag
  | some .string => !g.ag
  | some (.slice _) => !g.ag
  | some (.array _ _) => g.ag
  | _ => false
def sigsFit (P : Program) (m : Nat) : List Sig → List TypeId → Bool
  | [], [] => true
  | g :: gs, t :: ts => sigFits P m g t && sigsFit P m gs ts
  | _, _ => false
def WfA : (gs : List Sig) → Args gs → Prop
  | [], _ => True
  | g :: gs, x => Wf g.t x.1 ∧ WfA gs x.2

section
variable {H : Type} {enc : TypeId × Value → H} {P : Program} {w : World} {base : Nat}

theorem one_cell {v u : Value} (h : v.cells.toList = [u]) (hv : ∀ cs, v ≠ .agg cs) : v = u := by
  cases v with
  | agg cs => exact absurd rfl (hv cs)
  | _ => simpa [Value.cells] using h

theorem CR.one {w : World} {S : Nat → Prop} {t : Ty} {d : Den t} {v : Value} (hc : CR w S t d [v]) (h : (cells t d).length = 1) (E : Env) (hw : E.w = w) (hS : E.S = S) : ∃ c, cells t d = [c] ∧ CellR E c [v] := by
  subst hw; subst hS
  have := hc.items
  match hh : cells t d, h with
  | [c], _ =>
    rw [hh] at this
    obtain ⟨r, s, e, h1, h2⟩ := this
    simp only [IR] at h2
    subst h2
    simp at e
    subst e
    exact ⟨c, rfl, h1⟩

variable {bk : DataW H → Nat} {ba : List (DataW H) → Nat}
theorem v1_open (B : BulkLaw bk ba) {m fuel : Nat} {g : Sig} {t : TypeId} {v : Value} {x : DataW H × List MemPlace} (hf : sigFits P m g t = true) (hv : Value.okWide P w .any base t v) (hz : ∀ z ∈ DataW.weights P t x.1, z ≤ reachBytes)
    (h : DataW.trod enc P w 0 (fun _ => true) true fuel t v.cells.toList = some x) : ∃ d : Den g.t, V1R (startE w) (canonV g d) v ∧ Wf g.t d ∧ bd g.t d ≤ bk x.1 := by
  unfold sigFits at hf
  rw [Bool.and_eq_true] at hf
  obtain ⟨h1, h2⟩ := hf
  obtain ⟨d, hc, hw, hb⟩ := open_cr B m h1 hz h
  refine ⟨d, ?_, hw, hb⟩
  have single : ∀ u, v = u → (∀ cs, v ≠ .agg cs) → g.ag = false → (cells g.t d).length = 1 → V1R (startE w) (canonV g d) v := by
    intro u e hn hg hl
    have hcl : v.cells.toList = [v] := by
      cases v with
      | agg cs => exact absurd rfl (hn cs)
      | _ => rfl
    rw [hcl] at hc
    obtain ⟨c, e1, e2⟩ := hc.one hl (startE w) rfl rfl
    unfold canonV
    rw [hg]
    simp only [e1]
    exact e2
  cases m with
  | zero => cases h1
  | succ m =>
  unfold tyFits at h1
  split at h2
  · rename_i F hu
    obtain ⟨cs, rfl, _⟩ := okWide_struct hu hv
    unfold canonV
    rw [h2]
    exact ⟨cs, rfl, hc.items (E := startE w)⟩
  · rename_i k hu
    obtain ⟨n, rfl⟩ := okWide_int hu hv
    refine single _ rfl (by simp) (by simpa using h2) ?_
    rw [hu] at h1
    match g, d, h1 with
    | ⟨_, .int _⟩, _, _ => rfl
  · rename_i hu
    obtain ⟨n, rfl⟩ := okWide_bool hu hv
    refine single _ rfl (by simp) (by simpa using h2) ?_
    rw [hu] at h1
    match g, d, h1 with
    | ⟨_, .bool⟩, _, _ => rfl
  · rename_i hu
    obtain ⟨n, rfl⟩ := okWide_string hu hv
    refine single _ rfl (by simp) (by simpa using h2) ?_
    rw [hu] at h1
    match g, d, h1 with
    | ⟨_, .str⟩, _, _ => rfl
  · rename_i e hu
    obtain ⟨a, len, cap, rfl⟩ := okWide_slice hu hv
    refine single _ rfl (by simp) (by simpa using h2) ?_
    rw [hu] at h1
    match g, d, h1 with
    | ⟨_, .sl _⟩, _, _ => rfl
  · rename_i n e hu
    obtain ⟨cs, rfl⟩ : ∃ cs, v = .agg cs := by
      simp only [Value.okWide, hu] at hv
      obtain ⟨cs, h1, _⟩ := hv
      exact ⟨cs, h1⟩
    unfold canonV
    rw [h2]
    exact ⟨cs, rfl, hc.items (E := startE w)⟩
  · cases h2

def bdA : (gs : List Sig) → Args gs → Nat
  | [], _ => 0
  | g :: gs, x => bd g.t x.1 + bdA gs x.2
theorem args_open (B : BulkLaw bk ba) {m : Nat} {vt : List TypeId} {gds : List (DataW H)} : ∀ {gs : List Sig} {ts : List TypeId} {vs : List Value} {ds : List (DataW H)} {ps : List MemPlace}, sigsFit P m gs ts = true →
    (∀ (j : Nat) t v, ts[j]? = some t → vs[j]? = some v → Value.okWide P w .any base t v) → (∀ z ∈ DataW.weightsEach P (ts ++ vt) (ds ++ gds), z ≤ reachBytes) →
    DataW.TrodAll enc P w 0 (fun _ => true) true ts vs ds ps → ∃ xs : Args gs, VsR (startE w) (canonArgs gs xs) vs ∧ WfA gs xs ∧ bdA gs xs ≤ ba ds
  | [], [], vs, ds, ps, _, _, _, h => by
    obtain ⟨rfl, rfl, rfl⟩ := trodAll_nil h
    exact ⟨(), rfl, trivial, Nat.zero_le _⟩
  | g :: gs, t :: ts, vs, ds, ps, hf, hv, hz, h => by
    unfold sigsFit at hf
    rw [Bool.and_eq_true] at hf
    obtain ⟨v, vs', d, ds', p, q, rfl, rfl, rfl, ⟨fuel, h1⟩, h2⟩ := trodAll_cons h
    rw [List.cons_append, List.cons_append, DataW.weightsEach] at hz
    obtain ⟨x, hx, wx, bx⟩ := v1_open B (x := (d, p)) hf.1 (hv 0 t v rfl rfl) (fun z hz' => hz z (List.mem_append.2 (.inl hz'))) h1
    obtain ⟨xs, hxs, wxs, bxs⟩ := args_open B hf.2 (fun j t v ht hvj => hv (j + 1) t v (by simpa using ht) (by simpa using hvj)) (fun z hz' => hz z (List.mem_append.2 (.inr hz'))) h2
    exact ⟨(x, xs), VsR.cons hx hxs, ⟨wx, wxs⟩, Nat.le_trans (Nat.add_le_add bx bxs) (B.cons _ _)⟩
  | [], _ :: _, _, _, _, hf, _, _, _ => by cases hf
  | _ :: _, [], _, _, _, hf, _, _, _ => by cases hf

theorem dec_cells {look : Nat → Option Blk} : ∀ (t : Ty) (x : Den t) (r : List Cell), dec look t (cells t x ++ r) = some (x, [], r)
  | .int k, x, r => by simp [cells, dec]
  | .ints k n, l, r => by simp [cells, dec]
  | .bool, b, r => rfl
  | .str, s, r => rfl
  | .sl t, l, r => by
    have : slAs look t (.ro t l) = some l := by
      unfold slAs
      simp only [sliceOf, eqTy, dif_pos, castL]
    simp only [cells, List.cons_append, List.nil_append, dec, this, frzN]
  | .pair a b, x, r => by
    simp only [cells, dec, List.append_assoc, dec_cells a x.1, dec_cells b x.2, List.append_nil]

theorem decAll_cells {look : Nat → Option Blk} (t : Ty) (x : Den t) : decAll look t (cells t x) = some (x, []) := by
  unfold decAll
  have := dec_cells (look := look) t x []
  rw [List.append_nil] at this
  rw [this]

def Sig.fine (g : Sig) : Bool := g.ag || match g.t with | .int _ => true | .bool => true | .str => true | .sl _ => true | _ => false
theorem decV_canon {g : Sig} (h : g.fine = true) (d : Den g.t) : decV g (canonV g d) = some d := by
  obtain ⟨ag, t⟩ := g
  cases ag with
  | true =>
    unfold decV canonV
    simp only [decAll_cells]
  | false =>
    have one : ∃ c, cells t d = [c] := by
      cases t <;> simp [Sig.fine] at h <;> exact ⟨_, rfl⟩
    obtain ⟨c, hc⟩ := one
    have e : canonV ⟨false, t⟩ d = .c c := by unfold canonV; simp only [hc]
    have e2 : decAll (fun _ => none) t [c] = some (d, []) := by rw [← hc]; exact decAll_cells t d
    unfold decV
    simp only [e, e2, hc]
theorem decArgs_canon : ∀ {gs : List Sig} (h : gs.all Sig.fine = true) (xs : Args gs), decArgs gs (canonArgs gs xs) = some xs
  | [], _, () => rfl
  | g :: gs, h, (a, r) => by
    rw [List.all_cons, Bool.and_eq_true] at h
    show (match decV g (canonV g a) with | some d => (match decArgs gs (canonArgs gs r) with | some r => some (d, r) | none => none) | none => none) = _
    rw [decV_canon h.1, decArgs_canon h.2]

def rowsFine (P : Program) (ts : List TypeId) : Bool := ts.all fun t => P.readableRec t && Nat.blt t P.types.size
theorem args_back {W W' : World} (hl : laidOutB P = true) (hb : Below W.heap.size W W') : ∀ {ts : List TypeId} {vs : List Value} {ds : List (DataW H)} {ps : List MemPlace}, rowsFine P ts = true → (∀ x ∈ ps, x.block < W.heap.size) →
    DataW.TrodAll enc P W 0 (fun _ => true) true ts vs ds ps → DataW.TrodAll enc P W' 0 (fun b => decide (b < W.heap.size)) true ts vs ds ps
  | [], vs, ds, ps, _, _, h => by
    obtain ⟨rfl, rfl, rfl⟩ := trodAll_nil h
    exact trodAll_mk0
  | t :: ts, vs, ds, ps, hf, hlt, h => by
    unfold rowsFine at hf
    rw [List.all_cons, Bool.and_eq_true, Bool.and_eq_true] at hf
    obtain ⟨v, vs', d, ds', p, q, rfl, rfl, rfl, h1, h2⟩ := trodAll_cons h
    exact trodAll_cons_mk (Below.trod hl hf.1.1 (by simpa [Nat.blt_eq] using hf.1.2) h1 hb fun x hx => hlt x (List.mem_append.2 (.inl hx))) (args_back hl hb hf.2 (fun x hx => hlt x (List.mem_append.2 (.inr hx))) h2)
end

/-- a law that is true, over arguments of any kind -/
theorem PSpec.law_all {P : Program} {H : Type} {enc : TypeId × Value → H} {f : FuncId} {s : PSpec} (h : GoodF P f s.spec) {W : World} {base m : Nat} {ts vt : List TypeId} {args : Array Value} {ds gds : List (DataW H)} {p : List MemPlace}
    (hfit : sigsFit P m s.gs ts = true) (hfine : s.gs.all Sig.fine = true) (hrow : rowsFine P ts = true) (hl : laidOutB P = true)
    (hval : ∀ (j : Nat) t v, ts[j]? = some t → args.toList[j]? = some v → Value.okWide P W .any base t v)
    (hz : (DataW.weightsEach P (ts ++ vt) (ds ++ gds)).all (· ≤ reachBytes) = true) (hA : DataW.TrodAll enc P W 0 (fun _ => true) true ts args.toList ds p)
    (hs : ∀ xs, WfA s.gs xs → ∃ q, s.out xs = (q, .cell (bv true), []) ∧ ∀ z, q = some z → z) :
    Calls P f args W fun e w' => e = .returned (.bool true) ∧ Below W.heap.size W w' ∧ DataW.TrodAll enc P w' 0 (fun b => decide (b < W.heap.size)) true ts args.toList ds p := by
  obtain ⟨xs, hv, hw, _⟩ := args_open (bulk_size H) hfit hval (fun z hz' => by simpa using List.all_eq_true.1 hz z hz') hA
  obtain ⟨q, h1, h2⟩ := hs xs hw
  refine (PSpec.law h xs hv (decArgs_canon hfine xs) h1 h2).mono fun e W' ⟨he, hb⟩ => ⟨he, hb, ?_⟩
  exact args_back hl hb hrow (DataW.TrodAll.lt hA) hA

/-- a law that is true, over arguments of any kind up to a bulk -/
theorem PSpec.law_upto {P : Program} {H : Type} {enc : TypeId × Value → H} {f : FuncId} {s : PSpec} (h : GoodF P f s.spec) {W : World} {base m N : Nat} {ts vt : List TypeId} {args : Array Value} {ds gds : List (DataW H)} {p : List MemPlace}
    {bk : DataW H → Nat} {ba : List (DataW H) → Nat} (B : BulkLaw bk ba) (hN : ba ds ≤ N)
    (hfit : sigsFit P m s.gs ts = true) (hfine : s.gs.all Sig.fine = true) (hrow : rowsFine P ts = true) (hl : laidOutB P = true)
    (hval : ∀ (j : Nat) t v, ts[j]? = some t → args.toList[j]? = some v → Value.okWide P W .any base t v)
    (hz : (DataW.weightsEach P (ts ++ vt) (ds ++ gds)).all (· ≤ reachBytes) = true) (hA : DataW.TrodAll enc P W 0 (fun _ => true) true ts args.toList ds p)
    (hs : ∀ xs, WfA s.gs xs → bdA s.gs xs ≤ N → ∃ q, s.out xs = (q, .cell (bv true), []) ∧ ∀ z, q = some z → z) :
    Calls P f args W fun e w' => e = .returned (.bool true) ∧ Below W.heap.size W w' ∧ DataW.TrodAll enc P w' 0 (fun b => decide (b < W.heap.size)) true ts args.toList ds p := by
  obtain ⟨xs, hv, hw, hbd⟩ := args_open B hfit hval (fun z hz' => by simpa using List.all_eq_true.1 hz z hz') hA
  obtain ⟨q, h1, h2⟩ := hs xs hw (Nat.le_trans hbd hN)
  refine (PSpec.law h xs hv (decArgs_canon hfine xs) h1 h2).mono fun e W' ⟨he, hb⟩ => ⟨he, hb, ?_⟩
  exact args_back hl hb hrow (DataW.TrodAll.lt hA) hA

end Go.Fw

/- What chips and their states that read well keep to. -/
namespace Go.Proofs.Ytblnigjmcjpopaa
open Go.Fw
set_option linter.unusedVariables false
set_option linter.unusedSimpArgs false
theorem i64_of {x : Int} (h : (Lit.int .i64 x).wf = true) : i64 x := by
  have := h
  simp [Lit.wf] at this
  exact this
theorem cP_of {c : Cv} (h : Wf gC.t c) : cP c := ⟨i64_of h.2.2.1, i64_of h.2.2.2.1, Nat.le_trans (Nat.le_of_eq (Nat.mul_one _).symm) h.2.2.2.2.1⟩
theorem dP_of {d : Dv} (h : Wf gD.t d) : dP d := ⟨Nat.le_trans (Nat.le_of_eq (Nat.mul_one _).symm) (Nat.le_trans h.2.1 (by decide)), u8s_of h.2.2⟩
theorem cc_pre (xs : Args ccS.gs) (hw : WfA ccS.gs xs) : cP xs.1 := cP_of hw.1
theorem ct_pre (xs : Args ctS.gs) (hw : WfA ctS.gs xs) : cP xs.1 ∧ dP xs.2.1 := ⟨cP_of hw.1, dP_of hw.2.1⟩

end Go.Proofs.Ytblnigjmcjpopaa

/- What boards that read well keep to. -/
namespace Go.Proofs.Ytblnigjmcjpopaa
open Go.Fw
set_option linter.unusedVariables false
set_option linter.unusedSimpArgs false
theorem bdP_of {b : Bd} (h : Wf gBd.t b) : bdP b :=
  ⟨⟨h.2.2.1.1, h.2.2.2.1⟩, fun c hc => ⟨cP_of (h.2.2.1.2 c hc), (h.2.2.1.2 c hc).1⟩⟩
theorem bdP_bP {b : Bd} (h : bdP b) : mapP b := ⟨by have := h.1.1; omega, ⟨by decide, by decide⟩, fun c hc => ⟨(h.2 c hc).1.1, (h.2 c hc).1.2.1⟩⟩

end Go.Proofs.Ytblnigjmcjpopaa

/- What a processor that reads well, up to a bulk, keeps to. -/
namespace Go.Proofs.Ytblnigjmcjpopaa
open Go.Fw
set_option linter.unusedVariables false
set_option linter.unusedSimpArgs false
theorem sum_mem {α : Type} (m : α → Nat) : ∀ {l : List α} {x : α}, x ∈ l → m x ≤ (l.map m).sum
  | [], _, h => by cases h
  | y :: r, x, h => by
    rw [List.map_cons, List.sum_cons]
    rcases List.mem_cons.1 h with rfl | h
    · omega
    · have := sum_mem m h; omega
theorem sum_len {α : Type} (m : α → Nat) (hm : ∀ x, 1 ≤ m x) : ∀ l : List α, l.length ≤ (l.map m).sum
  | [] => Nat.le_refl _
  | y :: r => by
    rw [List.map_cons, List.sum_cons, List.length_cons]
    have := sum_len m hm r
    have := hm y
    omega
theorem bd_stp (s : Stp) : 1 ≤ bd StepT s := by show 1 ≤ 1 + (1 + (1 + 1)); omega
theorem bd_cyc (x : Cyc) : bd CycT x = 1 + (1 + (1 + ((List.map (bd StepT) x.2.2.2).sum + 1))) := rfl
theorem bd_ins (x : Ins) : bd InsT x = 1 + ((ByteArray.size x.2.1 + 1) + (1 + ((List.map (bd CycT) x.2.2.2).sum + 1))) := rfl
theorem okCyc_of {l : List Cyc} (h : Wf (.sl CycT) l) : okCyc l := ⟨h.1, fun x hx => (h.2 x hx).2.2.2.1⟩
theorem cpuP_of {c : Cpu} (h : Wf CpuT c) : cpuOk c ∧ (okCyc c.2.2.1 ∧ okCyc c.2.2.2.1 ∧ okCyc c.2.2.2.2) :=
  ⟨⟨h.2.1.1, fun x hx => okCyc_of (h.2.1.2 x hx).2.2.2⟩, okCyc_of h.2.2.1, okCyc_of h.2.2.2.1, okCyc_of h.2.2.2.2⟩
theorem tellP_of {c : Cpu} {k : Kor} (hk : k.1.length = 9) (h : Wf CpuT c) : tellP c k := ⟨(cpuP_of h).1, (cpuP_of h).2, hk⟩
theorem tl_pre (xs : Args tlS.gs) (hw : WfA tlS.gs xs) : tellP xs.1 xs.2.1 := tellP_of hw.2.1.1.1 hw.1

end Go.Proofs.Ytblnigjmcjpopaa

/- What the arguments of BoardSames keep to. -/
namespace Go.Proofs.Ytblnigjmcjpopaa
open Go.Fw
set_option linter.unusedVariables false
theorem sbdP_of {b : Bd} (h : Wf gBd.t b) : sbdP b := ⟨⟨bdP_of h, cpuP_of h.2.1⟩, fun c hc => u8s_of (h.2.2.1.2 c hc).2.2.2.2.2⟩
theorem bss_pre (xs : Args bssS.gs) (hw : WfA bssS.gs xs) : sbdP xs.1 ∧ sbdP xs.2.1 := ⟨sbdP_of hw.1, sbdP_of hw.2.1⟩

end Go.Proofs.Ytblnigjmcjpopaa

