/- Part 11 of the proof: TabChk TabChk2 BoardChk BoardErrL BoardChk2 TabErr BoardErr StateE MchChk. No statement is handed in here; conditions: none. -/
import Derived.Test.YtofgbclopbmlcaaGreatG10
import Derived.Test.YtofgbclopbmlcaaGreatG7
import Derived.Test.YtofgbclopbmlcaaGreatG9
import Derived.Test.YtofgbclopbmlcaaGreatG8
import Derived.Test.YtofgbclopbmlcaaGreatG6
/- table.Check: what is wrong with a processor. -/
namespace Go.Proofs.YtofgbclopbmlcaaGreat
open Go.Fw
set_option linter.unusedVariables false
set_option linter.unusedSimpArgs false
set_option linter.constructorNameAsVariable false
set_option maxRecDepth 100000

def isOp (c : Cyc) : Bool := bif decide (c.1 = 1) then decide (c.2.1 = 0) else false
def operI (l : List Cyc) : Int := ((l.filter isOp).length : Nat)
theorem take_snoc2 {α : Type} {l : List α} {k : Nat} (d : α) (h : k < l.length) : l.take (k + 1) = l.take k ++ [l.getD k d] := by
  rw [List.take_add_one, List.getD_eq_getElem?_getD, List.getElem?_eq_getElem h]; rfl
theorem oper_yes {l : List Cyc} {k : Nat} (h : k < l.length) (h2 : isOp (l.getD k (dflt CycT)) = true) : ((l.take k).filter isOp).length + 1 = ((l.take (k + 1)).filter isOp).length := by
  rw [take_snoc2 (dflt CycT) h, List.filter_append, List.filter_cons, if_pos h2, List.length_append]; rfl
theorem oper_no {l : List Cyc} {k : Nat} (h : k < l.length) (h2 : isOp (l.getD k (dflt CycT)) = false) : ((l.take k).filter isOp).length = ((l.take (k + 1)).filter isOp).length := by
  rw [take_snoc2 (dflt CycT) h, List.filter_append, List.filter_cons, if_neg (by rw [h2]; decide), List.length_append]; rfl
def toperS : PSpec := ⟨[⟨false, .sl CycT⟩], fun (l, _) => (some (List.length l ≤ 1000), I (operI l), [])⟩
theorem toper_ok : GoodF Tryz.prog 190 toperS.spec := by
  have hT := tab_ok (fs := []) tree_ok
  have hP : SpecsOk Tryz.prog (tab tree []) := specs_nil
  refine toperS.good (fn := Tryz.f190) hT hP Tryz.func190 (by kernel_rfl) rfl fun (l : List Cyc) hq => ?_
  have hl : l.length ≤ 1000 := hq _ rfl
  clear hq
  repeat' first
    | (refine Go.mk ?_; conv => whnf)
    | refine Need.go ?_ ?_
    | refine NilG.go (fun _ => ?_) (fun _ => ?_)
    | refine Br.dec (fun _ => ?_) (fun _ => ?_)
    | refine Br.go (fun _ => ?_) (fun _ => ?_)
    | refine draw_go hT hP mixed ?_
    | refine round_go hT hP ?_
  refine up_go hT hP (A := Int) l.length (fun i n => St.mk [.dead, .dead, .dead, I n, .dead, .dead, .cell (.ro CycT l), I l.length, I i, .dead, .dead, .dead, .dead, .dead, .dead, .dead, .dead, .dead, .dead, .dead, .dead, .dead, .dead, .dead] [])
    (fun k n => n = (((l.take k).filter isOp).length : Nat)) 0 (Le.mk [] [] rfl rfl rfl ?_) rfl fun k n hk hi => ?_
  · repeat' first | exact trivial | exact ⟨rfl, rfl⟩ | refine And.intro ?_ ?_
  repeat' first
    | (refine Go.mk ?_; conv => whnf)
    | refine Need.go ?_ ?_
    | refine NilG.go (fun _ => ?_) (fun _ => ?_)
    | refine Br.dec (fun _ => ?_) (fun _ => ?_)
    | refine Br.go (fun _ => ?_) (fun _ => ?_)
    | refine draw_go hT hP mixed ?_
    | refine round_go hT hP ?_
  all_goals clear hT hP
  all_goals have hf := List.length_filter_le isOp (l.take k)
  all_goals rw [List.length_take] at hf
  · rename_i g
    have g : (k : Int) < (l.length : Int) := g
    show 0 ≤ (k : Int) ∧ (k : Int) < (l.length : Int)
    omega
  · rename_i g g1 g2
    have g : (k : Int) < (l.length : Int) := g
    have h2 : isOp (l.getD k (dflt CycT)) = true := by
      have g1 : (l.getD k (dflt CycT)).1 = 1 := g1
      have g2 : (l.getD k (dflt CycT)).2.1 = 0 := g2
      unfold isOp; rw [decide_eq_true g1, decide_eq_true g2]; rfl
    apply Exists.intro
    apply Exists.intro _
    refine And.intro (And.intro ?lt58 (And.intro ?ei58 ?inv58)) (Le.mk [] [] rfl rfl ?hh58 ?ht58)
    case hh58 => exact rfl
    case ht58 => repeat' first | exact trivial | exact ⟨rfl, rfl⟩ | refine And.intro ?_ ?_
    case lt58 => omega
    case ei58 => exact up_i (by omega)
    have e : IntKind.i64.wrap (n + 1) = n + 1 := w64 (by omega) (by omega)
    have e2 := oper_yes (show k < l.length by omega) h2
    rw [e]; omega
  · rename_i g g1 g2
    have g : (k : Int) < (l.length : Int) := g
    have h2 : isOp (l.getD k (dflt CycT)) = false := by
      have g1 : (l.getD k (dflt CycT)).1 = 1 := g1
      have g2 : ¬ (l.getD k (dflt CycT)).2.1 = 0 := g2
      unfold isOp; rw [decide_eq_true g1, decide_eq_false g2]; rfl
    apply Exists.intro
    apply Exists.intro _
    refine And.intro (And.intro ?lt74 (And.intro ?ei74 ?inv74)) (Le.mk [] [] rfl rfl ?hh74 ?ht74)
    case hh74 => exact rfl
    case ht74 => repeat' first | exact trivial | exact ⟨rfl, rfl⟩ | refine And.intro ?_ ?_
    case lt74 => omega
    case ei74 => exact up_i (by omega)
    have e2 := oper_no (show k < l.length by omega) h2
    omega
  · rename_i g g1
    have g : (k : Int) < (l.length : Int) := g
    have h2 : isOp (l.getD k (dflt CycT)) = false := by
      have g1 : ¬ (l.getD k (dflt CycT)).1 = 1 := g1
      unfold isOp; rw [decide_eq_false g1]; rfl
    apply Exists.intro
    apply Exists.intro _
    refine And.intro (And.intro ?lt88 (And.intro ?ei88 ?inv88)) (Le.mk [] [] rfl rfl ?hh88 ?ht88)
    case hh88 => exact rfl
    case ht88 => repeat' first | exact trivial | exact ⟨rfl, rfl⟩ | refine And.intro ?_ ?_
    case lt88 => omega
    case ei88 => exact up_i (by omega)
    have e2 := oper_no (show k < l.length by omega) h2
    omega
  · rename_i g
    have g : ¬ (k : Int) < (l.length : Int) := g
    refine .mk [] [] _ rfl rfl rfl rfl rfl rfl (imm_int ?_)
    rw [hi, List.take_of_length_le (by omega)]; rfl

end Go.Proofs.YtofgbclopbmlcaaGreat

/- table.Check. -/
namespace Go.Proofs.YtofgbclopbmlcaaGreat
open Go.Fw
set_option linter.unusedVariables false
set_option linter.unusedSimpArgs false
set_option linter.constructorNameAsVariable false
set_option maxRecDepth 100000

/-- what is wrong with an instruction behind others -/
def insC (pre : List Ins) (k : Nat) (prev : Int) (x : Ins) : Int :=
  if x.1 < 0 ∨ x.1 > 255 then 1 else if 0 < k ∧ x.1 ≤ prev then 9 else if nameB (bytesOf x.2.1) = false then 15 else if sizeI x.2.2.1 < 0 then 8
  else if pre.any (keyB x) = true then 5 else if cycsE x.2.2.2 ≠ 0 then cycsE x.2.2.2 else if operI x.2.2.2 ≠ sizeI x.2.2.1 then 3 else 0
def insE (l : List Ins) (k : Nat) : Int := insC (l.take k) k (l.getD (k - 1) (dflt InsT)).1 (l.getD k (dflt InsT))
theorem nz_of {x : Int} (h : (x != 0) = true) : x ≠ 0 := by simpa using h
theorem ze_of {x : Int} (h : (x != 0) = false) : x = 0 := by simpa using h
theorem insC_cyc {pre : List Ins} {k : Nat} {pv xo xm : Int} {xs : ByteArray} {xc : List Cyc} (h1 : ¬ xo < 0) (h2 : ¬ xo > 255) (h3 : ¬ (0 < k ∧ xo ≤ pv)) (h4 : (!nameB (bytesOf xs)) = false) (h5 : ¬ sizeI xm < 0) (h6 : pre.any (keyB (xo, xs, xm, xc)) = false) (h7 : (cycsE xc != 0) = true) : insC pre k pv (xo, xs, xm, xc) = cycsE xc := by
  unfold insC
  rw [if_neg (show ¬ (xo < 0 ∨ xo > 255) from fun h => h.elim h1 h2), if_neg (show ¬ (0 < k ∧ xo ≤ pv) from h3), if_neg (show ¬ nameB (bytesOf xs) = false from fun h => by rw [h] at h4; cases h4), if_neg (show ¬ sizeI xm < 0 from h5), if_neg (show ¬ pre.any (keyB (xo, xs, xm, xc)) = true from fun h => by rw [h] at h6; cases h6), if_pos (show cycsE xc ≠ 0 by simpa using h7)]
theorem insC_op {pre : List Ins} {k : Nat} {pv xo xm : Int} {xs : ByteArray} {xc : List Cyc} (h1 : ¬ xo < 0) (h2 : ¬ xo > 255) (h3 : ¬ (0 < k ∧ xo ≤ pv)) (h4 : (!nameB (bytesOf xs)) = false) (h5 : ¬ sizeI xm < 0) (h6 : pre.any (keyB (xo, xs, xm, xc)) = false) (h7 : (cycsE xc != 0) = false) (h8 : (operI xc != sizeI xm) = true) : insC pre k pv (xo, xs, xm, xc) = 3 := by
  unfold insC
  rw [if_neg (show ¬ (xo < 0 ∨ xo > 255) from fun h => h.elim h1 h2), if_neg (show ¬ (0 < k ∧ xo ≤ pv) from h3), if_neg (show ¬ nameB (bytesOf xs) = false from fun h => by rw [h] at h4; cases h4), if_neg (show ¬ sizeI xm < 0 from h5), if_neg (show ¬ pre.any (keyB (xo, xs, xm, xc)) = true from fun h => by rw [h] at h6; cases h6), if_neg (show ¬ cycsE xc ≠ 0 by simpa using h7), if_pos (show operI xc ≠ sizeI xm by simpa using h8)]
theorem insC_ok {pre : List Ins} {k : Nat} {pv xo xm : Int} {xs : ByteArray} {xc : List Cyc} (h1 : ¬ xo < 0) (h2 : ¬ xo > 255) (h3 : ¬ (0 < k ∧ xo ≤ pv)) (h4 : (!nameB (bytesOf xs)) = false) (h5 : ¬ sizeI xm < 0) (h6 : pre.any (keyB (xo, xs, xm, xc)) = false) (h7 : (cycsE xc != 0) = false) (h8 : (operI xc != sizeI xm) = false) : insC pre k pv (xo, xs, xm, xc) = 0 := by
  unfold insC
  rw [if_neg (show ¬ (xo < 0 ∨ xo > 255) from fun h => h.elim h1 h2), if_neg (show ¬ (0 < k ∧ xo ≤ pv) from h3), if_neg (show ¬ nameB (bytesOf xs) = false from fun h => by rw [h] at h4; cases h4), if_neg (show ¬ sizeI xm < 0 from h5), if_neg (show ¬ pre.any (keyB (xo, xs, xm, xc)) = true from fun h => by rw [h] at h6; cases h6), if_neg (show ¬ cycsE xc ≠ 0 by simpa using h7), if_neg (show ¬ operI xc ≠ sizeI xm by simpa using h8)]
def inssE (l : List Ins) : Int := errL (insE l) (List.range l.length)
def tailE (c : Cpu) : Int := errL cycsE [c.2.2.1, c.2.2.2.1, c.2.2.2.2]
def cpuE (c : Cpu) : Int := if nameB (bytesOf c.1) = false then 15 else if c.2.1.length > 256 then 2 else if inssE c.2.1 ≠ 0 then inssE c.2.1 else tailE c
theorem range_get {n k : Nat} (h : k < n) : (List.range n).getD k 0 = k := by
  rw [List.getD_eq_getElem?_getD, List.getElem?_range h]; rfl
def tcheckS : PSpec := ⟨[gCpu], fun (c, _) => (none, I (cpuE c), [])⟩
set_option maxHeartbeats 4000000 in
theorem tcheck_ok : GoodF Tryz.prog 101 tcheckS.spec := by
  have hT := tab_ok (fs := [(100, nameS.spec), (186, tsizeS.spec), (187, tktS.spec), (189, tcyclesS.spec), (190, toperS.spec)]) tree_ok
  have hP : SpecsOk Tryz.prog (tab tree [(100, nameS.spec), (186, tsizeS.spec), (187, tktS.spec), (189, tcyclesS.spec), (190, toperS.spec)]) := specs_cons tName_ok (specs_cons tSize_ok (specs_cons tkt_ok (specs_cons tcycles_ok (specs_cons toper_ok specs_nil))))
  refine tcheckS.good (fn := Tryz.f101) hT hP Tryz.func101 (by kernel_rfl) rfl fun (c : Cpu) _ => ?_
  obtain ⟨cn, ci, cr, cq, cm⟩ := c
  repeat' first
    | (refine Go.mk ?_; conv => whnf)
    | refine Need.go ?_ ?_
    | refine NilG.go (fun _ => ?_) (fun _ => ?_)
    | refine Br.dec (fun _ => ?_) (fun _ => ?_)
    | refine Br.go (fun _ => ?_) (fun _ => ?_)
    | refine draw_go hT hP mixed ?_
    | refine round_go hT hP ?_
  all_goals (try dsimp only [castL_eq] at *)
  · rename_i g
    have g : nameB (bytesOf cn) = false := by simpa using g
    refine .mk [] [] _ rfl rfl rfl rfl rfl rfl (imm_int ?_)
    exact (if_pos g : cpuE (cn, ci, cr, cq, cm) = 15).symm
  · rename_i g g2
    have g : nameB (bytesOf cn) = true := by simpa using g
    have g2 : (ci.length : Int) > 256 := g2
    refine .mk [] [] _ rfl rfl rfl rfl rfl rfl (imm_int ?_)
    show 2 = cpuE (cn, ci, cr, cq, cm)
    unfold cpuE
    rw [if_neg (by rw [g]; decide), if_pos (by show ci.length > 256; omega)]
  rename_i g1 g2
  have g1 : nameB (bytesOf cn) = true := by simpa using g1
  have hn : ci.length ≤ 256 := by have g2 : ¬ (ci.length : Int) > 256 := g2; omega
  clear g2
  have hC : ∀ e : Int, e ≠ 0 → inssE ci = e → e = cpuE (cn, ci, cr, cq, cm) := fun e h0 h1 => by
    unfold cpuE
    rw [if_neg (by rw [g1]; decide), if_neg (by show ¬ ci.length > 256; omega), if_pos (by rw [h1]; exact h0)]; exact h1.symm
  have hT2 : inssE ci = 0 → tailE (cn, ci, cr, cq, cm) = cpuE (cn, ci, cr, cq, cm) := fun h1 => by
    unfold cpuE
    rw [if_neg (by rw [g1]; decide), if_neg (by show ¬ ci.length > 256; omega), if_neg (by rw [h1]; decide)]
  refine up_go hT hP (A := Unit) ci.length (fun i _ => St.mk [.dead, .cell (.ptr 0 0), .dead, .dead, .dead, .dead, .dead, .dead, .dead, .dead, .dead, .dead, .dead, .dead, .dead, .dead, .dead, .dead, .dead, .dead, .cell (.ro InsT ci), I ci.length, I i, .dead, .dead, .dead, .dead, .dead, .dead, .dead, .dead, .dead, .dead, .dead, .dead, .dead, .dead, .dead, .dead, .dead, .dead, .dead, .dead, .dead, .dead, .dead, .dead, .dead, .dead, .dead, .dead, .dead, .dead, .dead, .dead, .dead, .dead, .dead, .dead, .dead, .dead, .dead, .dead, .dead, .dead, .dead, .dead, .dead, .dead, .dead, .dead, .dead, .dead, .dead, .dead, .dead, .dead, .dead, .dead, .dead, .dead, .dead, .dead, .dead, .dead, .dead, .dead, .dead, .dead, .dead, .dead, .dead, .dead, .dead, .dead, .dead, .dead, .dead, .dead, .dead]
      [some (.var [.imm (.string cn), .ro InsT ci, .ro CycT cr, .ro CycT cq, .ro CycT cm])])
    (fun k _ => errL (insE ci) ((List.range ci.length).drop k) = inssE ci) () (Le.mk [] [0] rfl rfl ?_ ?_) rfl fun k _ hk hi => ?_
  · exact rfl
  · repeat' first | exact trivial | exact ⟨rfl, rfl⟩ | refine And.intro ?_ ?_
  have hE : ∀ e : Int, e ≠ 0 → insE ci k = e → k < ci.length → e = cpuE (cn, ci, cr, cq, cm) := fun e h0 h1 hk => by
    refine hC e h0 ?_
    have hr : k < (List.range ci.length).length := by rw [List.length_range]; exact hk
    have e1 := range_get hk
    rw [← hi, errL_no 0 hr (by rw [e1, h1]; exact h0), e1, h1]
  have hN : insE ci k = 0 → k < ci.length → errL (insE ci) ((List.range ci.length).drop (k + 1)) = inssE ci := fun h1 hk => by
    have hr : k < (List.range ci.length).length := by rw [List.length_range]; exact hk
    rw [← hi, errL_ok 0 hr (by rw [range_get hk, h1])]
  repeat' first
    | (refine Go.mk ?_; conv => whnf)
    | refine Need.go ?_ ?_
    | refine NilG.go (fun _ => ?_) (fun _ => ?_)
    | refine Br.dec (fun _ => ?_) (fun _ => ?_)
    | refine Br.go (fun _ => ?_) (fun _ => ?_)
    | refine draw_go hT hP mixed ?_
    | refine round_go hT hP ?_
  all_goals (try dsimp only [castL_eq] at *)
  all_goals (have hp : (IntKind.i64.wrap ((k : Int) - 1)).toNat = k - 1 := by rw [w64 (by omega) (by omega)]; omega)
  all_goals (generalize hx : ci.getD (k : Int).toNat (dflt InsT) = x at *; obtain ⟨xo, xs, xm, xc⟩ := x)
  all_goals (have hx' : ci.getD k (dflt InsT) = (xo, xs, xm, xc) := hx)
  all_goals (have hI : insE ci k = insC (ci.take k) k (ci.getD (k - 1) (dflt InsT)).1 (xo, xs, xm, xc) := by unfold insE; rw [hx'])
  all_goals (have hdt : (ci.take (k : Int).toNat).drop 0 = ci.take k := rfl)
  all_goals (rw [hI] at hE hN)
  all_goals (try simp only [hp] at *)
  all_goals (generalize (ci.getD (k - 1) (dflt InsT)).1 = pv at *)
  all_goals (try rw [hdt] at *)
  all_goals first
    | exact .mk [] [] _ rfl rfl rfl rfl rfl rfl (imm_int (hE _ (nz_of (x := cycsE xc) (by assumption)) (insC_cyc (by assumption) (by assumption) (fun h => by omega) (by assumption) (by assumption) (by assumption) (by assumption)) (by omega)))
    | exact .mk [] [] _ rfl rfl rfl rfl rfl rfl (imm_int (hE _ (by decide) (insC_op (by assumption) (by assumption) (fun h => by omega) (by assumption) (by assumption) (by assumption) (by assumption) (by assumption)) (by omega)))
    | (refine .mk [] [] _ rfl rfl rfl rfl rfl rfl (imm_int (hE _ ?_ ?_ (by omega)))
       · first
           | decide
           | (have h0 : (cycsE xc != 0) = true := by assumption
              simpa using h0)
       · clear hT hP hE hN hC hT2 hi hx hx' hI
         simp [insC] at *
         try first
           | omega
           | (simp_all; done)
           | (simp_all; omega))
    | (show 0 ≤ (k : Int) ∧ (k : Int) < (ci.length : Int)
       omega)
    | (show 0 ≤ (k : Int) ∧ (k : Int) ≤ (ci.length : Int)
       omega)
    | (show 0 ≤ IntKind.i64.wrap ((k : Int) - 1) ∧ IntKind.i64.wrap ((k : Int) - 1) < (ci.length : Int)
       rw [w64 (by omega) (by omega)]; omega)
    | (refine ⟨?_, trivial⟩
       show ((ci.take k).drop 0).length ≤ 4611686018427387904
       rw [List.drop_zero, List.length_take]; omega)
    | (have h0 : (cycsE xc != 0) = false := by assumption
       show xc.length ≤ 1000
       have h1 : cycsE xc = 0 := by simpa using h0
       unfold cycsE at h1
       split at h1
       · cases h1
       · omega)
    | skip
  · apply Exists.intro
    apply Exists.intro ()
    refine And.intro (And.intro ?lt129 (And.intro ?ei129 ?inv129)) (Le.mk [] [0] rfl rfl ?hh129 ?ht129)
    case hh129 => exact rfl
    case ht129 => repeat' first | exact trivial | exact ⟨rfl, rfl⟩ | refine And.intro ?_ ?_
    case lt129 => omega
    case ei129 => exact up_i (by omega)
    exact hN (insC_ok (by assumption) (by assumption) (fun h => by omega) (by assumption) (by assumption) (by assumption) (by assumption) (by assumption)) (by omega)
  · apply Exists.intro
    apply Exists.intro ()
    refine And.intro (And.intro ?lt137 (And.intro ?ei137 ?inv137)) (Le.mk [] [0] rfl rfl ?hh137 ?ht137)
    case hh137 => exact rfl
    case ht137 => repeat' first | exact trivial | exact ⟨rfl, rfl⟩ | refine And.intro ?_ ?_
    case lt137 => omega
    case ei137 => exact up_i (by omega)
    exact hN (insC_ok (by assumption) (by assumption) (fun h => by omega) (by assumption) (by assumption) (by assumption) (by assumption) (by assumption)) (by omega)
  have h0 : inssE ci = 0 := by
    rw [← hi, List.drop_of_length_le (by rw [List.length_range]; omega)]; rfl
  have hQ := hT2 h0
  clear hE hN
  refine loop_unroll 4 ?_
  repeat' first
    | (refine Go.mk ?_; conv => whnf)
    | refine Need.go ?_ ?_
    | refine NilG.go (fun _ => ?_) (fun _ => ?_)
    | refine Br.dec (fun _ => ?_) (fun _ => ?_)
    | refine Br.go (fun _ => ?_) (fun _ => ?_)
    | refine draw_go hT hP mixed ?_
    | refine round_go hT hP ?_
  · exact of_decide_eq_true rfl
  · exact of_decide_eq_true rfl
  · rename_i g1
    have g1 : (cycsE cr != 0) = true := g1
    refine .mk [] [] _ rfl rfl rfl rfl rfl rfl (imm_int ?_)
    show cycsE cr = cpuE (cn, ci, cr, cq, cm)
    rw [← hQ]
    exact (if_neg (nz_of g1) : tailE (cn, ci, cr, cq, cm) = cycsE cr).symm
  · exact of_decide_eq_true rfl
  · exact of_decide_eq_true rfl
  · rename_i g1 g2
    have g1 : (cycsE cr != 0) = false := g1
    have g2 : (cycsE cq != 0) = true := g2
    refine .mk [] [] _ rfl rfl rfl rfl rfl rfl (imm_int ?_)
    show cycsE cq = cpuE (cn, ci, cr, cq, cm)
    rw [← hQ]
    exact (((if_pos (ze_of g1) : tailE (cn, ci, cr, cq, cm) = errL cycsE [cq, cm])).trans (if_neg (nz_of g2))).symm
  · exact of_decide_eq_true rfl
  · exact of_decide_eq_true rfl
  · rename_i g1 g2 g3
    have g1 : (cycsE cr != 0) = false := g1
    have g2 : (cycsE cq != 0) = false := g2
    have g3 : (cycsE cm != 0) = true := g3
    refine .mk [] [] _ rfl rfl rfl rfl rfl rfl (imm_int ?_)
    show cycsE cm = cpuE (cn, ci, cr, cq, cm)
    rw [← hQ]
    exact ((((if_pos (ze_of g1) : tailE (cn, ci, cr, cq, cm) = errL cycsE [cq, cm])).trans (if_pos (ze_of g2) : errL cycsE [cq, cm] = errL cycsE [cm])).trans (if_neg (nz_of g3))).symm
  · rename_i g1 g2 g3
    have g1 : (cycsE cr != 0) = false := g1
    have g2 : (cycsE cq != 0) = false := g2
    have g3 : (cycsE cm != 0) = false := g3
    refine .mk [] [] _ rfl rfl rfl rfl rfl rfl (imm_int ?_)
    show 0 = cpuE (cn, ci, cr, cq, cm)
    rw [← hQ]
    exact ((((if_pos (ze_of g1) : tailE (cn, ci, cr, cq, cm) = errL cycsE [cq, cm])).trans (if_pos (ze_of g2) : errL cycsE [cq, cm] = errL cycsE [cm])).trans (if_pos (ze_of g3) : errL cycsE [cm] = errL cycsE [])).symm

end Go.Proofs.YtofgbclopbmlcaaGreat

/- board.Check: what is wrong with a board (words). -/
namespace Go.Proofs.YtofgbclopbmlcaaGreat
open Go.Fw
set_option linter.unusedVariables false
set_option linter.unusedSimpArgs false
set_option linter.constructorNameAsVariable false
set_option maxRecDepth 100000

/-- what is wrong between a chip and one before it -/
def pairE (c d : Cv) : Int := if strEq d.1 c.1 = true then 5 else if c.2.2.1 < IntKind.i64.wrap (d.2.2.1 + d.2.2.2.1) ∧ d.2.2.1 < IntKind.i64.wrap (c.2.2.1 + c.2.2.2.1) then 16 else 0
def chipAtE (pre : List Cv) (c : Cv) : Int := if chipE c ≠ 0 then chipE c else errL (pairE c) pre
def chipsE (l : List Cv) : Int := errL (fun k => chipAtE (l.take k) (l.getD k (dflt ChipT))) (List.range l.length)
def wireAtE (b : Bd) (k : Nat) : Int := if wireE b (b.2.2.2.getD k (dflt WireT)) ≠ 0 then wireE b (b.2.2.2.getD k (dflt WireT)) else if (b.2.2.2.take k).any (sameW (b.2.2.2.getD k (dflt WireT))) = true then 5 else 0
def boardE (b : Bd) : Int :=
  if nameB (bytesOf b.1) = false then 15 else if cpuE b.2.1 ≠ 0 then cpuE b.2.1 else if b.2.2.1.length > 12 then 2 else if chipsE b.2.2.1 ≠ 0 then chipsE b.2.2.1
  else if b.2.2.2.length > 40 then 2 else errL (wireAtE b) (List.range b.2.2.2.length)

end Go.Proofs.YtofgbclopbmlcaaGreat

/- Facts of boards: clashes, names that differ, wires; no program here. -/
namespace Go.Proofs.YtofgbclopbmlcaaGreat
open Go.Fw
set_option linter.unusedVariables false
set_option linter.unusedSimpArgs false
set_option linter.constructorNameAsVariable false
set_option maxRecDepth 100000

theorem chipE_0 {c : Cv} (h : chipE c = 0) : (0 ≤ c.2.1 ∧ c.2.1 ≤ 8) ∧ (1 ≤ c.2.2.2.1 ∧ c.2.2.2.1 ≤ 4096) ∧ 0 ≤ c.2.2.1 ∧ c.2.2.1 ≤ 65536 - c.2.2.2.1 := by
  obtain ⟨cn, ck, cb, cs, cd⟩ := c
  unfold chipE at h
  dsimp only at h ⊢
  repeat' split at h
  all_goals first
    | (exfalso; revert h; decide)
    | skip
  all_goals
    rcases kinds ck with rfl | rfl | rfl | rfl | rfl | rfl | rfl | rfl | rfl | hx
  all_goals (try simp only [w64e] at *)
  all_goals first
    | omega
    | (simp only [sizeK, sel] at *; omega)
    | (simp [sizeK, sel] at *; omega)
/-- a clash, in the reference's words -/
theorem clash_iff {c d : Cv} (hc : chipE c = 0) (hd : chipE d = 0) :
    (imax c.2.2.1 d.2.2.1 < imin (IntKind.i64.wrap (c.2.2.1 + c.2.2.2.1)) (IntKind.i64.wrap (d.2.2.1 + d.2.2.2.1))) ↔ (c.2.2.1 < IntKind.i64.wrap (d.2.2.1 + d.2.2.2.1) ∧ d.2.2.1 < IntKind.i64.wrap (c.2.2.1 + c.2.2.2.1)) := by
  have h1 := chipE_0 hc
  have h2 := chipE_0 hd
  rw [imax_eq, imin_eq, w64 (by omega) (by omega), w64 (by omega) (by omega)]
  omega
theorem errL_all {α : Type} {f : α → Int} : ∀ {l : List α}, errL f l = 0 → ∀ x ∈ l, f x = 0
  | y :: r, h, x, hx => by
    unfold errL at h
    split at h
    · rename_i h0
      rcases List.mem_cons.1 hx with rfl | hx
      · exact h0
      · exact errL_all h x hx
    · rename_i h0; exact absurd h h0
theorem chipsE_at {l : List Cv} (h : chipsE l = 0) {k : Nat} (hk : k < l.length) : chipAtE (l.take k) (l.getD k (dflt ChipT)) = 0 :=
  errL_all h k (List.mem_range.2 hk)
theorem chipsE_c {l : List Cv} (h : chipsE l = 0) {c : Cv} (hc : c ∈ l) : chipE c = 0 := by
  obtain ⟨k, hk, e⟩ := List.getElem_of_mem hc
  have h1 := chipsE_at h hk
  rw [List.getD_eq_getElem?_getD, List.getElem?_eq_getElem hk, Option.getD_some, e] at h1
  unfold chipAtE at h1
  split at h1
  · rename_i h2; exact absurd h1 h2
  · rename_i h2; omega
theorem pairE_name {c d : Cv} (h : pairE c d = 0) : d.1 ≠ c.1 := fun e => by
  unfold pairE at h
  rw [if_pos (strEq_iff.2 e)] at h; cases h
theorem names_differ {l : List Cv} (h : chipsE l = 0) : l.Pairwise fun c d => c.1 ≠ d.1 := by
  rw [List.pairwise_iff_getElem]
  intro i j hi hj hij
  have h1 := chipsE_at h hj
  rw [List.getD_eq_getElem?_getD, List.getElem?_eq_getElem hj, Option.getD_some] at h1
  unfold chipAtE at h1
  split at h1
  · rename_i h2; exact absurd h1 h2
  · have h3 := errL_all h1 l[i] (by
      rw [List.mem_take_iff_getElem]
      exact ⟨i, by omega, rfl⟩)
    exact pairE_name h3
def kindF (s : ByteArray) (k : Int) (c : Cv) : Int := if strEq c.1 s = true then c.2.1 else k
def kindL (s : ByteArray) (l : List Cv) : Int := l.foldl (kindF s) (-1)
theorem kindL_step {s : ByteArray} {l : List Cv} {k : Nat} (h : k < l.length) : kindL s (l.take (k + 1)) = kindF s (kindL s (l.take k)) (l.getD k (dflt ChipT)) := by
  unfold kindL
  rw [take_snoc2 (dflt ChipT) h, List.foldl_append]; rfl
theorem kindF_none {s : ByteArray} : ∀ {l : List Cv} {a : Int}, (∀ c ∈ l, c.1 ≠ s) → l.foldl (kindF s) a = a
  | [], _, _ => rfl
  | x :: r, a, h => by
    rw [List.foldl_cons, show kindF s a x = a from if_neg (fun e => h x (List.mem_cons_self ..) (strEq_iff.1 e))]
    exact kindF_none fun c hc => h c (List.mem_cons_of_mem _ hc)
theorem kindF_fst {s : ByteArray} : ∀ {l : List Cv} {a : Int} {k : Nat}, l.Pairwise (fun c d => c.1 ≠ d.1) →
    (fstG (nmB s) l k < 0 → l.foldl (kindF s) a = a) ∧ (0 ≤ fstG (nmB s) l k → l.foldl (kindF s) a = (l.getD (fstG (nmB s) l k - k).toNat (dflt ChipT)).2.1)
  | [], a, k, _ => ⟨fun _ => rfl, fun h => by simp [fstG] at h⟩
  | x :: r, a, k, hp => by
    rw [List.pairwise_cons] at hp
    by_cases hx : strEq x.1 s = true
    · have e : fstG (nmB s) (x :: r) k = k := if_pos hx
      rw [e]
      refine ⟨fun h => by omega, fun _ => ?_⟩
      rw [List.foldl_cons, show kindF s a x = x.2.1 from if_pos hx, kindF_none (fun c hc ec => hp.1 c hc ((strEq_iff.1 hx).trans ec.symm)), show ((k : Int) - k).toNat = 0 by omega]
      rfl
    · have e : fstG (nmB s) (x :: r) k = fstG (nmB s) r (k + 1) := if_neg hx
      obtain ⟨h1, h2⟩ := kindF_fst (s := s) (l := r) (a := a) (k := k + 1) hp.2
      rw [e, List.foldl_cons, show kindF s a x = a from if_neg hx]
      refine ⟨h1, fun h => ?_⟩
      rw [h2 h]
      have hin := fstG_in (p := nmB s) (l := r) (k := k + 1)
      rw [show (fstG (nmB s) r (k + 1) - (k : Int)).toNat = (fstG (nmB s) r (k + 1) - ((k + 1 : Nat) : Int)).toNat + 1 by omega]
      rfl
theorem kindL_eq {s : ByteArray} {l : List Cv} (hp : l.Pairwise fun c d => c.1 ≠ d.1) : kindL s l = if fstI (nmB s) l < 0 then -1 else (l.getD (fstI (nmB s) l).toNat (dflt ChipT)).2.1 := by
  obtain ⟨h1, h2⟩ := kindF_fst (s := s) (a := -1) (k := 0) hp
  unfold kindL fstI
  split
  · rename_i h; exact h1 h
  · rename_i h
    rw [h2 (by omega)]; simp
theorem kindL_neg {s : ByteArray} {l : List Cv} (h : chipsE l = 0) : kindL s l < 0 ↔ fstI (nmB s) l < 0 := by
  rw [kindL_eq (names_differ h)]
  have hin := fstI_in (nmB s) l
  split
  · rename_i h1; exact ⟨fun _ => h1, fun _ => by decide⟩
  · rename_i h1
    have := (chipE_0 (chipsE_c h (memD' (dflt ChipT) (show (fstI (nmB s) l).toNat < l.length by omega)))).1
    omega
theorem bytes_ext {a b : ByteArray} (h : a.data.toList = b.data.toList) : a = b := by
  cases a; cases b; simp only [ByteArray.mk.injEq]; exact Array.ext' h
theorem dot_split : ∀ {l : List UInt8}, 0 ≤ Lib.indexByte l 46 → l = l.take (Lib.indexByte l 46).toNat ++ 46 :: l.drop ((Lib.indexByte l 46).toNat + 1)
  | [], h => by simp [Lib.indexByte] at h
  | x :: r, h => by
    unfold Lib.indexByte at h ⊢
    by_cases hx : (x == 46) = true
    · rw [if_pos hx]
      have : x = 46 := by simpa using hx
      subst this; rfl
    · rw [if_neg hx] at h ⊢
      by_cases h2 : (Lib.indexByte r 46 == -1) = true
      · rw [if_pos h2] at h; simp at h
      · rw [if_neg h2] at h ⊢
        have hin := indexB_in 46 r
        have h3 : Lib.indexByte r 46 ≠ -1 := fun e => h2 (beq_iff_eq.2 e)
        have ih := dot_split (l := r) (by omega)
        rw [show (Lib.indexByte r 46 + 1).toNat = (Lib.indexByte r 46).toNat + 1 by omega]
        simpa using ih
/-- the pin's name behind the dot is irq: the whole is the chip's name and '.irq' -/
theorem pin_eq (s : ByteArray) : strEq s (cutB s ++ irqS) = strEq (cutA s) irqP := by
  rw [Bool.eq_iff_iff, strEq_iff, strEq_iff]
  by_cases hd : 0 ≤ dotI s
  · have e := dot_split (l := s.data.toList) hd
    have h1 : (cutB s).data.toList = s.data.toList.take (dotI s).toNat := by
      unfold cutB; rw [if_pos hd, ByteArray.data_extract]; simp
    have hin := dotI_in hd
    have hsz : s.data.toList.length = s.size := Array.length_toList
    have h2 : (cutA s).data.toList = s.data.toList.drop ((dotI s).toNat + 1) := by
      unfold cutA; rw [if_pos hd, ByteArray.data_extract, show (dotI s + 1).toNat = (dotI s).toNat + 1 by omega]
      rw [Array.toList_extract, List.extract_eq_take_drop]
      rw [List.take_of_length_le (by rw [List.length_drop]; omega)]
    have h3 : (cutB s ++ irqS).data.toList = s.data.toList.take (dotI s).toNat ++ [46, 105, 114, 113] := by
      rw [ByteArray.data_append, Array.toList_append, h1]; rfl
    constructor
    · intro h
      apply bytes_ext
      rw [h2]
      have h4 : s.data.toList = (cutB s ++ irqS).data.toList := congrArg (fun x : ByteArray => x.data.toList) h
      rw [h3] at h4
      have h5 := e.symm.trans h4
      have h6 := List.append_cancel_left h5
      injection h6
    · intro h
      apply bytes_ext
      rw [h3]
      have h4 : (cutA s).data.toList = irqP.data.toList := congrArg (fun x : ByteArray => x.data.toList) h
      rw [h2] at h4
      have h5 : s.data.toList.drop ((dotI s).toNat + 1) = [105, 114, 113] := h4
      refine e.trans ?_
      show s.data.toList.take (dotI s).toNat ++ 46 :: s.data.toList.drop ((dotI s).toNat + 1) = _
      rw [h5]
  · have e1 : cutB s = s := if_neg hd
    have e2 : cutA s = ⟨#[]⟩ := if_neg hd
    rw [e1, e2]
    constructor
    · intro h
      have h4 := congrArg ByteArray.size h
      rw [ByteArray.size_append] at h4
      have : irqS.size = 4 := rfl
      omega
    · intro h
      exact absurd (congrArg ByteArray.size h) (by decide)

-- the map of the wires before

theorem wGet_put {l : List (Den WireT × Den .bool)} {k k' : Den WireT} {v : Den .bool} : mapGet (mapPut l k v) k' = if denEq WireT k' k = true then some v else mapGet l k' := by
  have hs : ∀ {a b : Den WireT}, denEq WireT a b = true ↔ a = b := denEq_iff
  induction l with
  | nil =>
    show (match denEq WireT k' k with | true => some v | false => none) = _
    cases denEq WireT k' k <;> rfl
  | cons p r ih =>
    obtain ⟨pk, pv⟩ := p
    by_cases h : denEq WireT k pk = true
    · have e : mapPut ((pk, pv) :: r) k v = (k, v) :: r := by
        show (match denEq WireT k pk with | true => (k, v) :: r | false => (pk, pv) :: mapPut r k v) = _
        rw [h]
      rw [e]
      have hk := hs.1 h
      subst hk
      show (match denEq WireT k' k with | true => some v | false => mapGet r k') = if denEq WireT k' k = true then some v else (match denEq WireT k' k with | true => some pv | false => mapGet r k')
      cases denEq WireT k' k <;> rfl
    · have h0 : denEq WireT k pk = false := by simpa using h
      have e : mapPut ((pk, pv) :: r) k v = (pk, pv) :: mapPut r k v := by
        show (match denEq WireT k pk with | true => (k, v) :: r | false => (pk, pv) :: mapPut r k v) = _
        rw [h0]
      rw [e]
      show (match denEq WireT k' pk with | true => some pv | false => mapGet (mapPut r k v) k') = if denEq WireT k' k = true then some v else (match denEq WireT k' pk with | true => some pv | false => mapGet r k')
      rw [ih]
      by_cases h1 : denEq WireT k' pk = true
      · have h2 : ¬ denEq WireT k' k = true := fun h3 => h (by rw [← hs.1 h3]; exact h1)
        rw [h1]
        show some pv = if denEq WireT k' k = true then some v else some pv
        rw [if_neg h2]
      · have h1' : denEq WireT k' pk = false := by simpa using h1
        rw [h1']
def wKeys (M : List (Den WireT × Den .bool)) (l : List Wr) : Prop := ∀ x : Wr, getOr (mapGet M x) false = l.any (sameW x)
theorem wKeys_put {M : List (Den WireT × Den .bool)} {l : List Wr} {k : Nat} {y : Wr} (h : wKeys M (l.take k)) (hk : k < l.length) (e : l.getD k (dflt WireT) = y) : wKeys (mapPut M y true) (l.take (k + 1)) := by
  intro x
  rw [wGet_put, take_snoc2 (dflt WireT) hk, e, List.any_append]
  by_cases hc : sameW x y = true
  · rw [if_pos (show denEq WireT x y = true from hc)]
    show true = _
    simp [hc]
  · rw [if_neg (show ¬ denEq WireT x y = true from hc), h x]
    have hc' : sameW x y = false := by simpa using hc
    simp [hc']

end Go.Proofs.YtofgbclopbmlcaaGreat

/- board.Check. -/
namespace Go.Proofs.YtofgbclopbmlcaaGreat
open Go.Fw
set_option linter.unusedVariables false
set_option linter.unusedSimpArgs false
set_option linter.constructorNameAsVariable false
set_option maxRecDepth 100000

def chkP (b : Bd) : Prop := bdP b ∧ ∀ w ∈ b.2.2.2, w.1.size ≤ 140737488351232
theorem chipsE_step {l : List Cv} {k : Nat} {e : Int} (hk : k < l.length) (hi : errL (fun k => chipAtE (l.take k) (l.getD k (dflt ChipT))) ((List.range l.length).drop k) = chipsE l) :
    (chipAtE (l.take k) (l.getD k (dflt ChipT)) ≠ 0 → chipAtE (l.take k) (l.getD k (dflt ChipT)) = chipsE l) ∧ (chipAtE (l.take k) (l.getD k (dflt ChipT)) = 0 → errL (fun k => chipAtE (l.take k) (l.getD k (dflt ChipT))) ((List.range l.length).drop (k + 1)) = chipsE l) := by
  have hr : k < (List.range l.length).length := by rw [List.length_range]; exact hk
  have e1 := range_get hk
  constructor
  · intro h
    rw [← hi, errL_no 0 hr (by rw [e1]; exact h), e1]
  · intro h
    rw [← hi, errL_ok 0 hr (by rw [e1]; exact h)]
theorem wiresE_step {b : Bd} {k : Nat} (hk : k < b.2.2.2.length) (hi : errL (wireAtE b) ((List.range b.2.2.2.length).drop k) = errL (wireAtE b) (List.range b.2.2.2.length)) :
    (wireAtE b k ≠ 0 → wireAtE b k = errL (wireAtE b) (List.range b.2.2.2.length)) ∧ (wireAtE b k = 0 → errL (wireAtE b) ((List.range b.2.2.2.length).drop (k + 1)) = errL (wireAtE b) (List.range b.2.2.2.length)) := by
  have hr : k < (List.range b.2.2.2.length).length := by rw [List.length_range]; exact hk
  have e1 := range_get hk
  constructor
  · intro h
    rw [← hi, errL_no 0 hr (by rw [e1]; exact h), e1]
  · intro h
    rw [← hi, errL_ok 0 hr (by rw [e1]; exact h)]
def bcheckS : PSpec := ⟨[gBd], fun (b, _) => (some (chkP b), I (boardE b), [])⟩
set_option maxHeartbeats 8000000 in
theorem bCheck_ok : GoodF Tryz.prog 53 bcheckS.spec := by
  have hT := tab_ok (fs := [(100, nameS.spec), (101, tcheckS.spec), (102, chipES.spec), (103, bwireS.spec), (57, wHasS.spec)]) tree_ok
  have hP : SpecsOk Tryz.prog (tab tree [(100, nameS.spec), (101, tcheckS.spec), (102, chipES.spec), (103, bwireS.spec), (57, wHasS.spec)]) := specs_cons tName_ok (specs_cons tcheck_ok (specs_cons cCheck_ok (specs_cons bwire_ok (specs_cons wHas_ok specs_nil))))
  refine bcheckS.good (fn := Tryz.f53) hT hP Tryz.func53 (by kernel_rfl) rfl fun (b : Bd) hq => ?_
  obtain ⟨⟨⟨hl1, hl2⟩, hcp⟩, hwp⟩ : chkP b := hq _ rfl
  clear hq
  obtain ⟨bn, ⟨un, ui, ur, uq, um⟩, bc, bw⟩ := b
  have hl1 : bc.length * 64 ≤ 140737488351232 := hl1
  have hl2 : bw.length * 32 ≤ 140737488351232 := hl2
  have hcp : ∀ c ∈ bc, cP c ∧ c.1.size ≤ 140737488351232 := hcp
  have hwp : ∀ w ∈ bw, w.1.size ≤ 140737488351232 := hwp
  obtain ⟨B, hB⟩ : ∃ B : Bd, B = (bn, (un, ui, ur, uq, um), bc, bw) := ⟨_, rfl⟩
  have hBE : boardE (bn, (un, ui, ur, uq, um), bc, bw) = if nameB (bytesOf bn) = false then 15 else if cpuE (un, ui, ur, uq, um) ≠ 0 then cpuE (un, ui, ur, uq, um) else if bc.length > 12 then 2 else if chipsE bc ≠ 0 then chipsE bc
    else if bw.length > 40 then 2 else errL (wireAtE (bn, (un, ui, ur, uq, um), bc, bw)) (List.range bw.length) := rfl
  repeat' first
    | (refine Go.mk ?_; conv => whnf)
    | refine Need.go ?_ ?_
    | refine NilG.go (fun _ => ?_) (fun _ => ?_)
    | refine Br.dec (fun _ => ?_) (fun _ => ?_)
    | refine Br.go (fun _ => ?_) (fun _ => ?_)
    | refine draw_go hT hP mixed ?_
    | refine round_go hT hP ?_
  all_goals (try dsimp only [castL_eq] at *)
  · rename_i g
    have g : nameB (bytesOf bn) = false := by simpa using g
    refine .mk [] [] _ rfl rfl rfl rfl rfl rfl (imm_int ?_)
    rw [hBE, if_pos g]
  · rename_i g g2
    have g : nameB (bytesOf bn) = true := by simpa using g
    have g2 := nz_of (x := cpuE (un, ui, ur, uq, um)) g2
    refine .mk [] [] _ rfl rfl rfl rfl rfl rfl (imm_int ?_)
    rw [hBE, if_neg (by rw [g]; decide), if_pos g2]
  · rename_i g g2 g3
    have g : nameB (bytesOf bn) = true := by simpa using g
    have g2 := ze_of (x := cpuE (un, ui, ur, uq, um)) g2
    have g3 : (bc.length : Int) > 12 := g3
    refine .mk [] [] _ rfl rfl rfl rfl rfl rfl (imm_int ?_)
    rw [hBE, if_neg (by rw [g]; decide), if_neg (fun h => h g2), if_pos (by omega)]
  rename_i g g2 g3
  have g : nameB (bytesOf bn) = true := by simpa using g
  have g2 := ze_of (x := cpuE (un, ui, ur, uq, um)) g2
  have g3 : ¬ (bc.length : Int) > 12 := g3
  rw [if_neg (by rw [g]; decide), if_neg (fun h => h g2), if_neg (by omega)] at hBE
  refine up_go hT hP (A := Unit) bc.length (fun i _ => St.mk [.dead, .cell (.ptr 0 0), .dead, .dead, .dead, .dead, .dead, .dead, .dead, .dead, .dead, .dead, .dead, .dead, .dead, .dead, .dead, .dead, .dead, .dead, .dead, .dead, .dead, .dead, .dead, .dead, .dead, .cell (.ro ChipT bc), I bc.length, I i, .dead, .dead, .dead, .dead, .dead, .dead, .dead, .dead, .dead, .dead, .dead, .dead, .dead, .dead, .dead, .dead, .dead, .dead, .dead, .dead, .dead, .dead, .dead, .dead, .dead, .dead, .dead, .dead, .dead, .dead, .dead, .dead, .dead, .dead, .dead, .dead, .dead, .dead, .dead, .dead, .dead, .dead, .dead, .dead, .dead, .dead, .dead, .dead, .dead, .dead, .dead, .dead, .dead, .dead, .dead, .dead, .dead, .dead, .dead, .dead, .dead, .dead, .dead, .dead, .dead, .dead, .dead, .dead, .dead, .dead]
      [some (.var [.imm (.string bn), .imm (.string un), .ro InsT ui, .ro CycT ur, .ro CycT uq, .ro CycT um, .ro ChipT bc, .ro WireT bw])])
    (fun k _ => errL (fun k => chipAtE (bc.take k) (bc.getD k (dflt ChipT))) ((List.range bc.length).drop k) = chipsE bc) () (Le.mk [] [0] rfl rfl ?_ ?_) rfl fun k _ hk hi => ?_
  · exact rfl
  · repeat' first | exact trivial | exact ⟨rfl, rfl⟩ | refine And.intro ?_ ?_
  have hcb : ∀ e : Int, chipsE bc = e → e ≠ 0 → e = boardE (bn, (un, ui, ur, uq, um), bc, bw) := fun e h1 h2 => by
    rw [hBE, if_pos (by rw [h1]; exact h2), h1]
  repeat' first
    | (refine Go.mk ?_; conv => whnf)
    | refine Need.go ?_ ?_
    | refine NilG.go (fun _ => ?_) (fun _ => ?_)
    | refine Br.dec (fun _ => ?_) (fun _ => ?_)
    | refine Br.go (fun _ => ?_) (fun _ => ?_)
    | refine draw_go hT hP mixed ?_
    | refine round_go hT hP ?_
  all_goals (try dsimp only [castL_eq] at *)
  · show 0 ≤ (k : Int) ∧ (k : Int) < (bc.length : Int)
    omega
  · rename_i g4
    have g4 : (k : Int) < (bc.length : Int) := g4
    exact (hcp _ (memD' (dflt ChipT) (show k < bc.length by omega))).1
  · rename_i g4 g5
    have g4 : (k : Int) < (bc.length : Int) := g4
    have g5 : (chipE (bc.getD k (dflt ChipT)) != 0) = true := g5
    have hs := (chipsE_step (e := 0) (show k < bc.length by omega) hi).1
    have e : chipAtE (bc.take k) (bc.getD k (dflt ChipT)) = chipE (bc.getD k (dflt ChipT)) := if_pos (nz_of g5)
    rw [e] at hs
    exact .mk [] [] _ rfl rfl rfl rfl rfl rfl (imm_int (hcb _ (hs (nz_of g5)).symm (nz_of g5)))
  · show 0 ≤ (k : Int) ∧ (k : Int) ≤ (bc.length : Int)
    omega
  · rename_i g4 g5
    have g4 : (k : Int) < (bc.length : Int) := g4
    have g5 : (chipE (bc.getD k (dflt ChipT)) != 0) = false := g5
    have hs := chipsE_step (e := 0) (show k < bc.length by omega) hi
    have e : chipAtE (bc.take k) (bc.getD k (dflt ChipT)) = errL (pairE (bc.getD k (dflt ChipT))) (bc.take k) := if_neg (fun h => h (ze_of g5))
    rw [e] at hs
    have hx : bc.getD (k : Int).toNat (dflt ChipT) = bc.getD k (dflt ChipT) := rfl
    have htl : (bc.take k).length = k := by rw [List.length_take]; omega
    have hts : ((bc.take (k : Int).toNat).drop 0) = bc.take k := rfl
    rw [hts, hx]
    generalize bc.getD k (dflt ChipT) = x at *
    obtain ⟨xn, xk, xb, xs, xd⟩ := x
    generalize bc.take k = pre at *
    refine up_go hT hP (A := Unit) pre.length (fun j _ => St.mk [.dead, .cell (.ptr 0 0), .dead, .dead, .dead, .cell (.ptr 1 0), .dead, .dead, .dead, .dead, .dead, .dead, .dead, .dead, .dead, .dead, .dead, .dead, .dead, .dead, .dead, .dead, .dead, .dead, .dead, .dead, .dead, .cell (.ro ChipT bc), I bc.length, I k, .dead, .dead, .dead, .dead, .dead, .dead, .dead, .dead, .dead, .dead, .dead, .dead, .cell (.ro ChipT pre), I pre.length, I j, .dead, .dead, .dead, .dead, .dead, .dead, .dead, .dead, .dead, .dead, .dead, .dead, .dead, .dead, .dead, .dead, .dead, .dead, .dead, .dead, .dead, .dead, .dead, .dead, .dead, .dead, .dead, .dead, .dead, .dead, .dead, .dead, .dead, .dead, .dead, .dead, .dead, .dead, .dead, .dead, .dead, .dead, .dead, .dead, .dead, .dead, .dead, .dead, .dead, .dead, .dead, .dead, .dead, .dead, .dead]
        [some (.var [.imm (.string bn), .imm (.string un), .ro InsT ui, .ro CycT ur, .ro CycT uq, .ro CycT um, .ro ChipT bc, .ro WireT bw]), some (.var [.imm (.string xn), iv .i64 xk, iv .i64 xb, iv .i64 xs, .ro (.int .u8) xd])])
      (fun j _ => errL (pairE (xn, xk, xb, xs, xd)) (pre.drop j) = errL (pairE (xn, xk, xb, xs, xd)) pre) () (Le.mk [] [0, 1] rfl rfl ?_ ?_) rfl fun j _ hj hi2 => ?_
    · exact rfl
    · repeat' first | exact trivial | exact ⟨rfl, rfl⟩ | refine And.intro ?_ ?_
    repeat' first
      | (refine Go.mk ?_; conv => whnf)
      | refine Need.go ?_ ?_
      | refine NilG.go (fun _ => ?_) (fun _ => ?_)
      | refine Br.dec (fun _ => ?_) (fun _ => ?_)
      | refine Br.go (fun _ => ?_) (fun _ => ?_)
      | refine draw_go hT hP mixed ?_
      | refine round_go hT hP ?_
    all_goals (try dsimp only [castL_eq] at *)
    all_goals clear hT hP
    all_goals (generalize hy : pre.getD (j : Int).toNat (dflt ChipT) = y at *; obtain ⟨yn, yk, yb, ys, yd⟩ := y)
    all_goals (replace hy : pre.getD j (dflt ChipT) = (yn, yk, yb, ys, yd) := hy)
    all_goals (have hok : pairE (xn, xk, xb, xs, xd) (yn, yk, yb, ys, yd) = 0 → (j : Int) < (pre.length : Int) → errL (pairE (xn, xk, xb, xs, xd)) (pre.drop (j + 1)) = errL (pairE (xn, xk, xb, xs, xd)) pre := fun h0 h1 => (errL_ok (f := pairE (xn, xk, xb, xs, xd)) (dflt ChipT) (show j < pre.length by omega) (by rw [hy, h0])).symm.trans hi2)
    · show 0 ≤ (j : Int) ∧ (j : Int) < (pre.length : Int)
      omega
    · rename_i g6 g7
      have g6 : (j : Int) < (pre.length : Int) := g6
      have g7 : strEq yn xn = true := g7
      have e5 : pairE (xn, xk, xb, xs, xd) (yn, yk, yb, ys, yd) = 5 := if_pos g7
      have e6 := errL_no (f := pairE (xn, xk, xb, xs, xd)) (dflt ChipT) (show j < pre.length by omega) (by rw [hy, e5]; decide)
      rw [hy, e5, hi2] at e6
      rw [e6] at hs
      exact .mk [] [] _ rfl rfl rfl rfl rfl rfl (imm_int (hcb _ (hs.1 (by decide)).symm (by decide)))
    · rename_i g6 g7 g8 g9
      have g6 : (j : Int) < (pre.length : Int) := g6
      have g7 : strEq yn xn = false := g7
      have e5 : pairE (xn, xk, xb, xs, xd) (yn, yk, yb, ys, yd) = 16 := by
        unfold pairE
        rw [if_neg (by rw [show strEq yn xn = false from g7]; decide), if_pos ⟨g8, g9⟩]
      have e6 := errL_no (f := pairE (xn, xk, xb, xs, xd)) (dflt ChipT) (show j < pre.length by omega) (by rw [hy, e5]; decide)
      rw [hy, e5, hi2] at e6
      rw [e6] at hs
      exact .mk [] [] _ rfl rfl rfl rfl rfl rfl (imm_int (hcb _ (hs.1 (by decide)).symm (by decide)))
    · rename_i g6 g7 g8 g9
      have g6 : (j : Int) < (pre.length : Int) := g6
      apply Exists.intro
      apply Exists.intro ()
      refine And.intro (And.intro ?lt157 (And.intro ?ei157 ?inv157)) (Le.mk [] [0, 1] rfl rfl ?hh157 ?ht157)
      case hh157 => exact rfl
      case ht157 => repeat' first | exact trivial | exact ⟨rfl, rfl⟩ | refine And.intro ?_ ?_
      case lt157 => omega
      case ei157 => exact up_i (by omega)
      refine hok ?_ g6
      unfold pairE
      rw [if_neg (by rw [show strEq yn xn = false from g7]; decide), if_neg (fun h => g9 h.2)]
    · rename_i g6 g7 g8
      have g6 : (j : Int) < (pre.length : Int) := g6
      apply Exists.intro
      apply Exists.intro ()
      refine And.intro (And.intro ?lt169 (And.intro ?ei169 ?inv169)) (Le.mk [] [0, 1] rfl rfl ?hh169 ?ht169)
      case hh169 => exact rfl
      case ht169 => repeat' first | exact trivial | exact ⟨rfl, rfl⟩ | refine And.intro ?_ ?_
      case lt169 => omega
      case ei169 => exact up_i (by omega)
      refine hok ?_ g6
      unfold pairE
      rw [if_neg (by rw [show strEq yn xn = false from g7]; decide), if_neg (fun h => g8 h.1)]
    · rename_i g6
      have g6 : ¬ (j : Int) < (pre.length : Int) := g6
      have e0 : errL (pairE (xn, xk, xb, xs, xd)) pre = 0 := by
        rw [← hi2, List.drop_of_length_le (by omega)]; rfl
      apply Exists.intro
      apply Exists.intro ()
      refine And.intro (And.intro ?lt183 (And.intro ?ei183 ?inv183)) (Le.mk [] [0] rfl rfl ?hh183 ?ht183)
      case hh183 => exact rfl
      case ht183 => repeat' first | exact trivial | exact ⟨rfl, rfl⟩ | refine And.intro ?_ ?_
      case lt183 => omega
      case ei183 => exact up_i (by omega)
      exact hs.2 e0
  · rename_i g4 g5
    have g4 : ¬ (k : Int) < (bc.length : Int) := g4
    have g5 : (bw.length : Int) > 40 := g5
    have h0 : chipsE bc = 0 := by
      rw [← hi, List.drop_of_length_le (by rw [List.length_range]; omega)]; rfl
    refine .mk [] [] _ rfl rfl rfl rfl rfl rfl (imm_int ?_)
    rw [hBE, if_neg (fun h => h h0), if_pos (by omega)]
  rename_i g4 g5
  have g4 : ¬ (k : Int) < (bc.length : Int) := g4
  have g5 : ¬ (bw.length : Int) > 40 := g5
  have h0 : chipsE bc = 0 := by
    rw [← hi, List.drop_of_length_le (by rw [List.length_range]; omega)]; rfl
  rw [if_neg (fun h => h h0), if_neg (by omega)] at hBE
  clear hi hcb
  refine up_go hT hP (A := Unit) bw.length (fun i _ => St.mk [.dead, .cell (.ptr 0 0), .dead, .dead, .dead, .dead, .dead, .dead, .dead, .dead, .dead, .dead, .dead, .dead, .dead, .dead, .dead, .dead, .dead, .dead, .dead, .dead, .dead, .dead, .dead, .dead, .dead, .dead, .dead, .dead, .dead, .dead, .dead, .dead, .dead, .dead, .dead, .dead, .dead, .dead, .dead, .dead, .dead, .dead, .dead, .dead, .dead, .dead, .dead, .dead, .dead, .dead, .dead, .dead, .dead, .dead, .dead, .dead, .dead, .dead, .dead, .dead, .dead, .dead, .dead, .dead, .dead, .dead, .dead, .dead, .dead, .dead, .dead, .dead, .dead, .dead, .dead, .dead, .dead, .dead, .cell (.ro WireT bw), I bw.length, I i, .dead, .dead, .dead, .dead, .dead, .dead, .dead, .dead, .dead, .dead, .dead, .dead, .dead, .dead, .dead, .dead, .dead]
      [some (.var [.imm (.string bn), .imm (.string un), .ro InsT ui, .ro CycT ur, .ro CycT uq, .ro CycT um, .ro ChipT bc, .ro WireT bw])])
    (fun k _ => errL (wireAtE (bn, (un, ui, ur, uq, um), bc, bw)) ((List.range bw.length).drop k) = errL (wireAtE (bn, (un, ui, ur, uq, um), bc, bw)) (List.range bw.length)) () (Le.mk [] [0] rfl rfl ?_ ?_) rfl fun q _ hq hj => ?_
  · exact rfl
  · repeat' first | exact trivial | exact ⟨rfl, rfl⟩ | refine And.intro ?_ ?_
  repeat' first
    | (refine Go.mk ?_; conv => whnf)
    | refine Need.go ?_ ?_
    | refine NilG.go (fun _ => ?_) (fun _ => ?_)
    | refine Br.dec (fun _ => ?_) (fun _ => ?_)
    | refine Br.go (fun _ => ?_) (fun _ => ?_)
    | refine draw_go hT hP mixed ?_
    | refine round_go hT hP ?_
  all_goals (try dsimp only [castL_eq] at *)
  all_goals clear hT hP
  all_goals (generalize hw : bw.getD (q : Int).toNat (dflt WireT) = w at *; obtain ⟨wf, wt⟩ := w)
  all_goals (replace hw : bw.getD q (dflt WireT) = (wf, wt) := hw)
  all_goals (have hA : wireAtE (bn, (un, ui, ur, uq, um), bc, bw) q = if wireE (bn, (un, ui, ur, uq, um), bc, bw) (bw.getD q (dflt WireT)) ≠ 0 then wireE (bn, (un, ui, ur, uq, um), bc, bw) (bw.getD q (dflt WireT)) else if (bw.take q).any (sameW (bw.getD q (dflt WireT))) = true then 5 else 0 := rfl)
  all_goals (rw [hw] at hA)
  all_goals (have hs := fun h => wiresE_step (b := (bn, (un, ui, ur, uq, um), bc, bw)) (k := q) h hj)
  all_goals (rw [hA] at hs)
  · show 0 ≤ (q : Int) ∧ (q : Int) < (bw.length : Int)
    omega
  · rename_i g6
    have g6 : (q : Int) < (bw.length : Int) := g6
    have := hwp _ (memD' (dflt WireT) (show q < bw.length by omega))
    rw [hw] at this
    exact ⟨by omega, this⟩
  · rename_i g6 g7
    have g6 : (q : Int) < (bw.length : Int) := g6
    have g7 := nz_of (x := wireE (bn, (un, ui, ur, uq, um), bc, bw) (wf, wt)) g7
    have hs := hs (by show q < bw.length; omega)
    rw [if_pos g7] at hs
    refine .mk [] [] _ rfl rfl rfl rfl rfl rfl (imm_int ?_)
    rw [hBE, ← hs.1 g7]
  · show 0 ≤ (q : Int) ∧ (q : Int) ≤ (bw.length : Int)
    omega
  · show ((bw.take (q : Int).toNat).drop 0).length ≤ 4611686018427387904
    rw [List.drop_zero, List.length_take]; omega
  · rename_i g6 g7 g8
    have g6 : (q : Int) < (bw.length : Int) := g6
    have g7 := ze_of (x := wireE (bn, (un, ui, ur, uq, um), bc, bw) (wf, wt)) g7
    have g8 : (bw.take q).any (sameW (wf, wt)) = true := g8
    have hs := hs (by show q < bw.length; omega)
    rw [if_neg (fun h => h g7), if_pos g8] at hs
    refine .mk [] [] _ rfl rfl rfl rfl rfl rfl (imm_int ?_)
    rw [hBE, ← hs.1 (by decide)]
  · rename_i g6 g7 g8
    have g6 : (q : Int) < (bw.length : Int) := g6
    have g7 := ze_of (x := wireE (bn, (un, ui, ur, uq, um), bc, bw) (wf, wt)) g7
    have g8 : (bw.take q).any (sameW (wf, wt)) = false := g8
    have hs := hs (by show q < bw.length; omega)
    rw [if_neg (fun h => h g7), if_neg (by rw [g8]; decide)] at hs
    apply Exists.intro
    apply Exists.intro ()
    refine And.intro (And.intro ?lt258 (And.intro ?ei258 ?inv258)) (Le.mk [] [0] rfl rfl ?hh258 ?ht258)
    case hh258 => exact rfl
    case ht258 => repeat' first | exact trivial | exact ⟨rfl, rfl⟩ | refine And.intro ?_ ?_
    case lt258 => omega
    case ei258 => exact up_i (by omega)
    exact hs.2 rfl
  · rename_i g6
    have g6 : ¬ (q : Int) < (bw.length : Int) := g6
    refine .mk [] [] _ rfl rfl rfl rfl rfl rfl (imm_int ?_)
    rw [hBE, ← hj, List.drop_of_length_le (by rw [List.length_range]; omega)]; rfl

end Go.Proofs.YtofgbclopbmlcaaGreat

/- bakeref1.CpuErr: what the reference says is wrong with a processor. -/
namespace Go.Proofs.YtofgbclopbmlcaaGreat
open Go.Fw
set_option linter.unusedVariables false
set_option linter.unusedSimpArgs false
set_option linter.constructorNameAsVariable false
set_option maxRecDepth 100000

abbrev KeyT : Ty := .pair .str (.int .i64)
theorem mapGet_put {l : List (Den KeyT × Den .bool)} {k k' : Den KeyT} {v : Den .bool} : mapGet (mapPut l k v) k' = if denEq KeyT k' k = true then some v else mapGet l k' := by
  have hs : ∀ {a b : Den KeyT}, denEq KeyT a b = true ↔ a = b := fun {a b} => ⟨fun h => denEq_eq rfl h, fun h => by rw [h]; exact denEq_self rfl⟩
  induction l with
  | nil =>
    show (match denEq KeyT k' k with | true => some v | false => none) = _
    cases denEq KeyT k' k <;> rfl
  | cons p r ih =>
    obtain ⟨pk, pv⟩ := p
    by_cases h : denEq KeyT k pk = true
    · have e : mapPut ((pk, pv) :: r) k v = (k, v) :: r := by
        show (match denEq KeyT k pk with | true => (k, v) :: r | false => (pk, pv) :: mapPut r k v) = _
        rw [h]
      rw [e]
      have hk := hs.1 h
      subst hk
      show (match denEq KeyT k' k with | true => some v | false => mapGet r k') = if denEq KeyT k' k = true then some v else (match denEq KeyT k' k with | true => some pv | false => mapGet r k')
      cases denEq KeyT k' k <;> rfl
    · have h0 : denEq KeyT k pk = false := by simpa using h
      have e : mapPut ((pk, pv) :: r) k v = (pk, pv) :: mapPut r k v := by
        show (match denEq KeyT k pk with | true => (k, v) :: r | false => (pk, pv) :: mapPut r k v) = _
        rw [h0]
      rw [e]
      show (match denEq KeyT k' pk with | true => some pv | false => mapGet (mapPut r k v) k') = if denEq KeyT k' k = true then some v else (match denEq KeyT k' pk with | true => some pv | false => mapGet r k')
      rw [ih]
      by_cases h1 : denEq KeyT k' pk = true
      · have h2 : ¬ denEq KeyT k' k = true := fun h3 => h (by rw [← hs.1 h3]; exact h1)
        rw [h1]
        show some pv = if denEq KeyT k' k = true then some v else some pv
        rw [if_neg h2]
      · have h1' : denEq KeyT k' pk = false := by simpa using h1
        rw [h1']

theorem opNe (x : Int) : (x != land .i64 x 255) = decide (x < 0 ∨ x > 255) := by
  have e2 : lowF x 8 = land .i64 x 255 := by unfold lowF; rw [show IntKind.i64.wrap (shl .i64 1 (widthF 8) - 1) = 255 by decide]
  have e : land .i64 x 255 = x % 256 := by rw [← e2, lowF_mod x 8 (by decide) (by decide)]; rfl
  rw [e]
  rw [Bool.eq_iff_iff]
  simp
  omega
/-- the keys that a map holds are those of the instructions -/
def keysOf (M : List (Den KeyT × Den .bool)) (l : List Ins) : Prop := ∀ x : Ins, getOr (mapGet M (x.2.1, x.2.2.1)) false = l.any (keyB x)
theorem key_iff {x y : Ins} : keyB x y = true ↔ (x.2.1, x.2.2.1) = (y.2.1, y.2.2.1) := by
  unfold keyB
  have hs : strEq y.2.1 x.2.1 = true ↔ y.2.1 = x.2.1 := Lib.bytes_beq_iff _ _
  rw [Prod.mk.injEq]
  cases h : strEq y.2.1 x.2.1 with
  | true =>
    show decide (y.2.2.1 = x.2.2.1) = true ↔ _
    rw [decide_eq_true_eq]
    have := hs.1 h
    exact ⟨fun h2 => ⟨this.symm, h2.symm⟩, fun h2 => h2.2.symm⟩
  | false =>
    show false = true ↔ _
    exact ⟨fun h2 => (by cases h2), fun h2 => (by have := hs.2 h2.1.symm; rw [h] at this; cases this)⟩
theorem keys_put {M : List (Den KeyT × Den .bool)} {l : List Ins} {k : Nat} {y : Ins} (h : keysOf M (l.take k)) (hk : k < l.length) (e : l.getD k (dflt InsT) = y) : keysOf (mapPut M (y.2.1, y.2.2.1) true) (l.take (k + 1)) := by
  intro x
  rw [mapGet_put, take_snoc2 (dflt InsT) hk, e, List.any_append]
  have hd : denEq KeyT (x.2.1, x.2.2.1) (y.2.1, y.2.2.1) = true ↔ (x.2.1, x.2.2.1) = (y.2.1, y.2.2.1) := ⟨fun h => denEq_eq rfl h, fun h => by rw [h]; exact denEq_self rfl⟩
  by_cases hc : keyB x y = true
  · rw [if_pos (hd.2 (key_iff.1 hc))]
    show true = _
    simp [hc]
  · rw [if_neg (fun h2 => hc (key_iff.2 (hd.1 h2))), h x]
    have hc' : keyB x y = false := by simpa using hc
    simp [hc']
set_option maxHeartbeats 4000000 in
theorem cpuErr_eval : GoodF Tryz.prog 62 tcheckS.spec := by
  have hT := tab_ok (fs := [(61, nameS.spec), (116, tsizeS.spec), (117, tcyclesS.spec)]) tree_ok
  have hP : SpecsOk Tryz.prog (tab tree [(61, nameS.spec), (116, tsizeS.spec), (117, tcyclesS.spec)]) := specs_cons rNamed_ok (specs_cons rOperand_ok (specs_cons rCycles_ok specs_nil))
  refine tcheckS.good (fn := Tryz.f62) hT hP Tryz.func62 (by kernel_rfl) rfl fun (c : Cpu) _ => ?_
  obtain ⟨cn, ci, cr, cq, cm⟩ := c
  repeat' first
    | (refine Go.mk ?_; conv => whnf)
    | refine Need.go ?_ ?_
    | refine NilG.go (fun _ => ?_) (fun _ => ?_)
    | refine Br.dec (fun _ => ?_) (fun _ => ?_)
    | refine Br.go (fun _ => ?_) (fun _ => ?_)
    | refine draw_go hT hP mixed ?_
    | refine round_go hT hP ?_
  all_goals (try dsimp only [castL_eq] at *)
  · rename_i g
    have g : nameB (bytesOf cn) = false := by simpa using g
    refine .mk [] [] _ rfl rfl rfl rfl rfl rfl (imm_int ?_)
    exact (if_pos g : cpuE (cn, ci, cr, cq, cm) = 15).symm
  · rename_i g g2
    have g : nameB (bytesOf cn) = true := by simpa using g
    have g2 : (ci.length : Int) > 256 := g2
    refine .mk [] [] _ rfl rfl rfl rfl rfl rfl (imm_int ?_)
    show 2 = cpuE (cn, ci, cr, cq, cm)
    unfold cpuE
    rw [if_neg (by rw [g]; decide), if_pos (by show ci.length > 256; omega)]
  rename_i g1 g2
  have g1 : nameB (bytesOf cn) = true := by simpa using g1
  have hn : ci.length ≤ 256 := by have g2 : ¬ (ci.length : Int) > 256 := g2; omega
  clear g2
  have hC : ∀ e : Int, e ≠ 0 → inssE ci = e → e = cpuE (cn, ci, cr, cq, cm) := fun e h0 h1 => by
    unfold cpuE
    rw [if_neg (by rw [g1]; decide), if_neg (by show ¬ ci.length > 256; omega), if_pos (by rw [h1]; exact h0)]; exact h1.symm
  have hT2 : inssE ci = 0 → tailE (cn, ci, cr, cq, cm) = cpuE (cn, ci, cr, cq, cm) := fun h1 => by
    unfold cpuE
    rw [if_neg (by rw [g1]; decide), if_neg (by show ¬ ci.length > 256; omega), if_neg (by rw [h1]; decide)]
  refine up_go hT hP (A := Int × List (Den KeyT × Den .bool)) ci.length (fun i (a, M) => St.mk [.dead, .cell (.ptr 0 0), .dead, I a, .cell (.map 1), .dead, .dead, .dead, .dead, .dead, .dead, .dead, .dead, .dead, .dead, .dead, .dead, .dead, .dead, .dead, .dead, .dead, .dead, .cell (.ro InsT ci), I ci.length, I i, .dead, .dead, .dead, .dead, .dead, .dead, .dead, .dead, .dead, .dead, .dead, .dead, .dead, .dead, .dead, .dead, .dead, .dead, .dead, .dead, .dead, .dead, .dead, .dead, .dead, .dead, .dead, .dead, .dead, .dead, .dead, .dead, .dead, .dead, .dead, .dead, .dead, .dead, .dead, .dead, .dead, .dead, .dead, .dead, .dead, .dead, .dead, .dead, .dead, .dead, .dead, .dead, .dead, .dead, .dead, .dead, .dead, .dead, .dead, .dead, .dead, .dead, .dead, .dead, .dead, .dead, .dead, .dead, .dead, .dead, .dead, .dead, .dead, .dead, .dead, .dead, .dead, .dead, .dead, .dead, .dead, .dead, .dead, .dead, .dead, .dead, .dead]
      [some (.var [.imm (.string cn), .ro InsT ci, .ro CycT cr, .ro CycT cq, .ro CycT cm]), some (.mp true KeyT .bool M)])
    (fun k (a, M) => errL (insE ci) ((List.range ci.length).drop k) = inssE ci ∧ keysOf M (ci.take k) ∧ (0 < k → a = (ci.getD (k - 1) (dflt InsT)).1)) (-1, []) (Le.mk [] [0, 1] rfl rfl ?_ ?_) ⟨rfl, fun _ => rfl, fun h => absurd h (Nat.lt_irrefl _)⟩ fun k (a, M) hk hi => ?_
  · exact rfl
  · repeat' first | exact trivial | exact ⟨rfl, rfl⟩ | refine And.intro ?_ ?_
  obtain ⟨hi, hM, ha⟩ := hi
  have hE : ∀ e : Int, e ≠ 0 → insE ci k = e → k < ci.length → e = cpuE (cn, ci, cr, cq, cm) := fun e h0 h1 hk => by
    refine hC e h0 ?_
    have hr : k < (List.range ci.length).length := by rw [List.length_range]; exact hk
    have e1 := range_get hk
    rw [← hi, errL_no 0 hr (by rw [e1, h1]; exact h0), e1, h1]
  have hN : insE ci k = 0 → k < ci.length → errL (insE ci) ((List.range ci.length).drop (k + 1)) = inssE ci := fun h1 hk => by
    have hr : k < (List.range ci.length).length := by rw [List.length_range]; exact hk
    rw [← hi, errL_ok 0 hr (by rw [range_get hk, h1])]
  repeat' first
    | (refine Go.mk ?_; conv => whnf)
    | refine Need.go ?_ ?_
    | refine NilG.go (fun _ => ?_) (fun _ => ?_)
    | refine Br.dec (fun _ => ?_) (fun _ => ?_)
    | refine Br.go (fun _ => ?_) (fun _ => ?_)
    | refine draw_go hT hP mixed ?_
    | refine round_go hT hP ?_
  all_goals (try dsimp only [castL_eq] at *)
  all_goals (generalize hx : ci.getD (k : Int).toNat (dflt InsT) = x at *; obtain ⟨xo, xs, xm, xc⟩ := x)
  all_goals (have hx' : ci.getD k (dflt InsT) = (xo, xs, xm, xc) := hx)
  all_goals (have hI : insE ci k = insC (ci.take k) k (ci.getD (k - 1) (dflt InsT)).1 (xo, xs, xm, xc) := by unfold insE; rw [hx'])
  all_goals (rw [hI] at hE hN)
  all_goals (generalize (ci.getD (k - 1) (dflt InsT)).1 = pv at *)
  all_goals (try dsimp only at *)
  all_goals (have hL : getOr (mapGet M (xs, xm)) (dflt .bool) = (ci.take k).any (keyB (xo, xs, xm, xc)) := hM (xo, xs, xm, xc))
  all_goals (try simp only [hL] at *)
  all_goals (try simp only [opNe, decide_eq_false_iff_not, decide_eq_true_eq] at *)
  · show 0 ≤ (k : Int) ∧ (k : Int) < (ci.length : Int)
    omega
  all_goals first
    | exact .mk [] [] _ rfl rfl rfl rfl rfl rfl (imm_int (hE _ (nz_of (x := cycsE xc) (by assumption)) (insC_cyc (fun h => by omega) (fun h => by omega) (fun h => by omega) (by assumption) (by assumption) (by assumption) (by assumption)) (by omega)))
    | (refine .mk [] [] _ rfl rfl rfl rfl rfl rfl (imm_int (hE _ ?_ ?_ (by omega)))
       · decide
       · clear hT hP hE hN hC hT2 hi hx hx' hI hM
         simp [insC] at *
         try first
           | omega
           | (simp_all; done)
           | (simp_all; omega))
    | skip
  · have hk2 : k < ci.length := by omega
    have hx5 : xc.length ≤ 1000 := by
      have h0 : (cycsE xc != 0) = false := by assumption
      have h1 := ze_of h0
      unfold cycsE at h1
      split at h1
      · cases h1
      · omega
    have hno : ¬ (xo < 0 ∨ xo > 255) := by assumption
    refine up_go hT hP (A := Int) xc.length (fun j n => St.mk [.dead, .cell (.ptr 0 0), .dead, I xo, .cell (.map 1), .dead, .cell (.ptr 2 0), .dead, .dead, I n, .dead, .dead, .dead, .dead, .dead, .dead, .dead, .dead, .dead, .dead, .dead, .dead, .dead, .cell (.ro InsT ci), I ci.length, I k, .dead, .dead, .dead, .dead, .dead, .dead, .dead, .dead, .dead, .dead, .dead, .dead, .dead, .dead, .dead, .dead, .dead, .dead, .dead, .dead, .dead, .dead, .dead, .dead, .dead, .dead, .dead, .dead, .dead, .dead, .dead, .dead, .dead, .dead, .dead, .dead, .dead, .dead, .dead, .dead, .dead, .dead, .dead, .dead, .dead, .dead, .dead, .dead, .dead, .dead, .cell (.ro CycT xc), I xc.length, I j, .dead, .dead, .dead, .dead, .dead, .dead, .dead, .dead, .dead, .dead, .dead, .dead, .dead, .dead, .dead, .dead, .dead, .dead, .dead, .dead, .dead, .dead, .dead, .dead, .dead, .dead, .dead, .dead, .dead, .dead, .dead, .dead, .dead, .dead]
        [some (.var [.imm (.string cn), .ro InsT ci, .ro CycT cr, .ro CycT cq, .ro CycT cm]), some (.mp true KeyT .bool (mapPut M (xs, xm) true)), some (.var [.imm (.int .i64 xo), .imm (.string xs), .imm (.int .i64 xm), .ro CycT xc])])
      (fun j n => n = (((xc.take j).filter isOp).length : Nat)) 0 (Le.mk [] [0, 1, 2] rfl rfl ?_ ?_) rfl fun j n hj hi2 => ?_
    · exact rfl
    · repeat' first | exact trivial | exact ⟨rfl, rfl⟩ | refine And.intro ?_ ?_
    repeat' first
      | (refine Go.mk ?_; conv => whnf)
      | refine Need.go ?_ ?_
      | refine NilG.go (fun _ => ?_) (fun _ => ?_)
      | refine Br.dec (fun _ => ?_) (fun _ => ?_)
      | refine Br.go (fun _ => ?_) (fun _ => ?_)
      | refine draw_go hT hP mixed ?_
      | refine round_go hT hP ?_
    all_goals clear hT hP
    all_goals have hf := List.length_filter_le isOp (xc.take j)
    all_goals rw [List.length_take] at hf
    · show 0 ≤ (j : Int) ∧ (j : Int) < (xc.length : Int)
      omega
    · rename_i g g1 g2
      have g : (j : Int) < (xc.length : Int) := g
      have h2 : isOp (xc.getD j (dflt CycT)) = true := by
        have g1 : (xc.getD j (dflt CycT)).1 = 1 := g1
        have g2 : (xc.getD j (dflt CycT)).2.1 = 0 := g2
        unfold isOp; rw [decide_eq_true g1, decide_eq_true g2]; rfl
      apply Exists.intro
      apply Exists.intro _
      refine And.intro (And.intro ?lt191 (And.intro ?ei191 ?inv191)) (Le.mk [] [0, 1, 2] rfl rfl ?hh191 ?ht191)
      case hh191 => exact rfl
      case ht191 => repeat' first | exact trivial | exact ⟨rfl, rfl⟩ | refine And.intro ?_ ?_
      case lt191 => omega
      case ei191 => exact up_i (by omega)
      have e : IntKind.i64.wrap (n + 1) = n + 1 := w64 (by omega) (by omega)
      have e2 := oper_yes (show j < xc.length by omega) h2
      rw [e]; omega
    · rename_i g g1 g2
      have g : (j : Int) < (xc.length : Int) := g
      have h2 : isOp (xc.getD j (dflt CycT)) = false := by
        have g1 : (xc.getD j (dflt CycT)).1 = 1 := g1
        have g2 : ¬ (xc.getD j (dflt CycT)).2.1 = 0 := g2
        unfold isOp; rw [decide_eq_true g1, decide_eq_false g2]; rfl
      apply Exists.intro
      apply Exists.intro _
      refine And.intro (And.intro ?lt207 (And.intro ?ei207 ?inv207)) (Le.mk [] [0, 1, 2] rfl rfl ?hh207 ?ht207)
      case hh207 => exact rfl
      case ht207 => repeat' first | exact trivial | exact ⟨rfl, rfl⟩ | refine And.intro ?_ ?_
      case lt207 => omega
      case ei207 => exact up_i (by omega)
      have e2 := oper_no (show j < xc.length by omega) h2
      omega
    · rename_i g g1
      have g : (j : Int) < (xc.length : Int) := g
      have h2 : isOp (xc.getD j (dflt CycT)) = false := by
        have g1 : ¬ (xc.getD j (dflt CycT)).1 = 1 := g1
        unfold isOp; rw [decide_eq_false g1]; rfl
      apply Exists.intro
      apply Exists.intro _
      refine And.intro (And.intro ?lt221 (And.intro ?ei221 ?inv221)) (Le.mk [] [0, 1, 2] rfl rfl ?hh221 ?ht221)
      case hh221 => exact rfl
      case ht221 => repeat' first | exact trivial | exact ⟨rfl, rfl⟩ | refine And.intro ?_ ?_
      case lt221 => omega
      case ei221 => exact up_i (by omega)
      have e2 := oper_no (show j < xc.length by omega) h2
      omega
    · rename_i g g1
      have e : n = operI xc := by rw [hi2, List.take_of_length_le (by omega)]; rfl
      have g1 : (n != sizeI xm) = true := g1
      rw [e] at g1
      exact .mk [] [] _ rfl rfl rfl rfl rfl rfl (imm_int (hE 3 (by decide) (insC_op (fun h => by omega) (fun h => by omega) (fun h => by omega) (by assumption) (by assumption) (by assumption) (by assumption) g1) hk2))
    · rename_i g g1
      have e : n = operI xc := by rw [hi2, List.take_of_length_le (by omega)]; rfl
      have g1 : (n != sizeI xm) = false := g1
      rw [e] at g1
      apply Exists.intro
      apply Exists.intro (xo, mapPut M (xs, xm) true)
      refine And.intro (And.intro ?lt239 (And.intro ?ei239 ?inv239)) (Le.mk [] [0, 1] rfl rfl ?hh239 ?ht239)
      case hh239 => exact rfl
      case ht239 => repeat' first | exact trivial | exact ⟨rfl, rfl⟩ | refine And.intro ?_ ?_
      case lt239 => omega
      case ei239 => exact up_i (by omega)
      exact ⟨hN (insC_ok (fun h => by omega) (fun h => by omega) (fun h => by omega) (by assumption) (by assumption) (by assumption) (by assumption) g1) hk2, keys_put hM hk2 hx', fun _ => by rw [Nat.add_sub_cancel, hx']⟩
  · have hk2 : k < ci.length := by omega
    have hx5 : xc.length ≤ 1000 := by
      have h0 : (cycsE xc != 0) = false := by assumption
      have h1 := ze_of h0
      unfold cycsE at h1
      split at h1
      · cases h1
      · omega
    have hno : ¬ (xo < 0 ∨ xo > 255) := by assumption
    refine up_go hT hP (A := Int) xc.length (fun j n => St.mk [.dead, .cell (.ptr 0 0), .dead, I xo, .cell (.map 1), .dead, .cell (.ptr 2 0), .dead, .dead, I n, .dead, .dead, .dead, .dead, .dead, .dead, .dead, .dead, .dead, .dead, .dead, .dead, .dead, .cell (.ro InsT ci), I ci.length, I k, .dead, .dead, .dead, .dead, .dead, .dead, .dead, .dead, .dead, .dead, .dead, .dead, .dead, .dead, .dead, .dead, .dead, .dead, .dead, .dead, .dead, .dead, .dead, .dead, .dead, .dead, .dead, .dead, .dead, .dead, .dead, .dead, .dead, .dead, .dead, .dead, .dead, .dead, .dead, .dead, .dead, .dead, .dead, .dead, .dead, .dead, .dead, .dead, .dead, .dead, .cell (.ro CycT xc), I xc.length, I j, .dead, .dead, .dead, .dead, .dead, .dead, .dead, .dead, .dead, .dead, .dead, .dead, .dead, .dead, .dead, .dead, .dead, .dead, .dead, .dead, .dead, .dead, .dead, .dead, .dead, .dead, .dead, .dead, .dead, .dead, .dead, .dead, .dead, .dead]
        [some (.var [.imm (.string cn), .ro InsT ci, .ro CycT cr, .ro CycT cq, .ro CycT cm]), some (.mp true KeyT .bool (mapPut M (xs, xm) true)), some (.var [.imm (.int .i64 xo), .imm (.string xs), .imm (.int .i64 xm), .ro CycT xc])])
      (fun j n => n = (((xc.take j).filter isOp).length : Nat)) 0 (Le.mk [] [0, 1, 2] rfl rfl ?_ ?_) rfl fun j n hj hi2 => ?_
    · exact rfl
    · repeat' first | exact trivial | exact ⟨rfl, rfl⟩ | refine And.intro ?_ ?_
    repeat' first
      | (refine Go.mk ?_; conv => whnf)
      | refine Need.go ?_ ?_
      | refine NilG.go (fun _ => ?_) (fun _ => ?_)
      | refine Br.dec (fun _ => ?_) (fun _ => ?_)
      | refine Br.go (fun _ => ?_) (fun _ => ?_)
      | refine draw_go hT hP mixed ?_
      | refine round_go hT hP ?_
    all_goals clear hT hP
    all_goals have hf := List.length_filter_le isOp (xc.take j)
    all_goals rw [List.length_take] at hf
    · show 0 ≤ (j : Int) ∧ (j : Int) < (xc.length : Int)
      omega
    · rename_i g g1 g2
      have g : (j : Int) < (xc.length : Int) := g
      have h2 : isOp (xc.getD j (dflt CycT)) = true := by
        have g1 : (xc.getD j (dflt CycT)).1 = 1 := g1
        have g2 : (xc.getD j (dflt CycT)).2.1 = 0 := g2
        unfold isOp; rw [decide_eq_true g1, decide_eq_true g2]; rfl
      apply Exists.intro
      apply Exists.intro _
      refine And.intro (And.intro ?lt280 (And.intro ?ei280 ?inv280)) (Le.mk [] [0, 1, 2] rfl rfl ?hh280 ?ht280)
      case hh280 => exact rfl
      case ht280 => repeat' first | exact trivial | exact ⟨rfl, rfl⟩ | refine And.intro ?_ ?_
      case lt280 => omega
      case ei280 => exact up_i (by omega)
      have e : IntKind.i64.wrap (n + 1) = n + 1 := w64 (by omega) (by omega)
      have e2 := oper_yes (show j < xc.length by omega) h2
      rw [e]; omega
    · rename_i g g1 g2
      have g : (j : Int) < (xc.length : Int) := g
      have h2 : isOp (xc.getD j (dflt CycT)) = false := by
        have g1 : (xc.getD j (dflt CycT)).1 = 1 := g1
        have g2 : ¬ (xc.getD j (dflt CycT)).2.1 = 0 := g2
        unfold isOp; rw [decide_eq_true g1, decide_eq_false g2]; rfl
      apply Exists.intro
      apply Exists.intro _
      refine And.intro (And.intro ?lt296 (And.intro ?ei296 ?inv296)) (Le.mk [] [0, 1, 2] rfl rfl ?hh296 ?ht296)
      case hh296 => exact rfl
      case ht296 => repeat' first | exact trivial | exact ⟨rfl, rfl⟩ | refine And.intro ?_ ?_
      case lt296 => omega
      case ei296 => exact up_i (by omega)
      have e2 := oper_no (show j < xc.length by omega) h2
      omega
    · rename_i g g1
      have g : (j : Int) < (xc.length : Int) := g
      have h2 : isOp (xc.getD j (dflt CycT)) = false := by
        have g1 : ¬ (xc.getD j (dflt CycT)).1 = 1 := g1
        unfold isOp; rw [decide_eq_false g1]; rfl
      apply Exists.intro
      apply Exists.intro _
      refine And.intro (And.intro ?lt310 (And.intro ?ei310 ?inv310)) (Le.mk [] [0, 1, 2] rfl rfl ?hh310 ?ht310)
      case hh310 => exact rfl
      case ht310 => repeat' first | exact trivial | exact ⟨rfl, rfl⟩ | refine And.intro ?_ ?_
      case lt310 => omega
      case ei310 => exact up_i (by omega)
      have e2 := oper_no (show j < xc.length by omega) h2
      omega
    · rename_i g g1
      have e : n = operI xc := by rw [hi2, List.take_of_length_le (by omega)]; rfl
      have g1 : (n != sizeI xm) = true := g1
      rw [e] at g1
      exact .mk [] [] _ rfl rfl rfl rfl rfl rfl (imm_int (hE 3 (by decide) (insC_op (fun h => by omega) (fun h => by omega) (fun h => by omega) (by assumption) (by assumption) (by assumption) (by assumption) g1) hk2))
    · rename_i g g1
      have e : n = operI xc := by rw [hi2, List.take_of_length_le (by omega)]; rfl
      have g1 : (n != sizeI xm) = false := g1
      rw [e] at g1
      apply Exists.intro
      apply Exists.intro (xo, mapPut M (xs, xm) true)
      refine And.intro (And.intro ?lt328 (And.intro ?ei328 ?inv328)) (Le.mk [] [0, 1] rfl rfl ?hh328 ?ht328)
      case hh328 => exact rfl
      case ht328 => repeat' first | exact trivial | exact ⟨rfl, rfl⟩ | refine And.intro ?_ ?_
      case lt328 => omega
      case ei328 => exact up_i (by omega)
      exact ⟨hN (insC_ok (fun h => by omega) (fun h => by omega) (fun h => by omega) (by assumption) (by assumption) (by assumption) (by assumption) g1) hk2, keys_put hM hk2 hx', fun _ => by rw [Nat.add_sub_cancel, hx']⟩
  · skip
    have hQ := hT2 (by rw [← hi, List.drop_of_length_le (by rw [List.length_range]; omega)]; rfl)
    have gr : cycsE cr = 0 := by assumption
    have gq : cycsE cq = 0 := by assumption
    refine .mk [] [] _ rfl rfl rfl rfl rfl rfl (imm_int ?_)
    show cycsE cm = cpuE (cn, ci, cr, cq, cm)
    rw [← hQ]
    refine (((if_pos gr : tailE (cn, ci, cr, cq, cm) = errL cycsE [cq, cm]).trans (if_pos gq : errL cycsE [cq, cm] = errL cycsE [cm])).trans ?_).symm
    by_cases h : cycsE cm = 0
    · rw [h]; exact (if_pos h : errL cycsE [cm] = errL cycsE [])
    · exact (if_neg h : errL cycsE [cm] = cycsE cm)
  · skip
    have hQ := hT2 (by rw [← hi, List.drop_of_length_le (by rw [List.length_range]; omega)]; rfl)
    have gr : cycsE cr = 0 := by assumption
    have gq : ¬ cycsE cq = 0 := by assumption
    refine .mk [] [] _ rfl rfl rfl rfl rfl rfl (imm_int ?_)
    show cycsE cq = cpuE (cn, ci, cr, cq, cm)
    rw [← hQ]
    exact ((if_pos gr : tailE (cn, ci, cr, cq, cm) = errL cycsE [cq, cm]).trans (if_neg gq : errL cycsE [cq, cm] = cycsE cq)).symm
  · exact absurd (by assumption : cycsE cr = 0) (by assumption)
  · skip
    have hQ := hT2 (by rw [← hi, List.drop_of_length_le (by rw [List.length_range]; omega)]; rfl)
    have gr : ¬ cycsE cr = 0 := by assumption
    refine .mk [] [] _ rfl rfl rfl rfl rfl rfl (imm_int ?_)
    show cycsE cr = cpuE (cn, ci, cr, cq, cm)
    rw [← hQ]
    exact (if_neg gr : tailE (cn, ci, cr, cq, cm) = cycsE cr).symm

end Go.Proofs.YtofgbclopbmlcaaGreat

/- bakeref1.BoardErr: what the reference says is wrong with a board. -/
namespace Go.Proofs.YtofgbclopbmlcaaGreat
open Go.Fw
set_option linter.unusedVariables false
set_option linter.unusedSimpArgs false
set_option linter.constructorNameAsVariable false
set_option maxRecDepth 100000

set_option maxHeartbeats 8000000 in
theorem rBoardErr_ok : GoodF Tryz.prog 18 bcheckS.spec := by
  have hT := tab_ok (fs := [(61, nameS.spec), (62, tcheckS.spec), (63, chipES.spec), (64, idxbS.spec), (56, asksS.spec)]) tree_ok
  have hP : SpecsOk Tryz.prog (tab tree [(61, nameS.spec), (62, tcheckS.spec), (63, chipES.spec), (64, idxbS.spec), (56, asksS.spec)]) := specs_cons rNamed_ok (specs_cons cpuErr_eval (specs_cons rChipErr_ok (specs_cons sIndexByte_ok (specs_cons rInterrupts_ok specs_nil))))
  refine bcheckS.good (fn := Tryz.f18) hT hP Tryz.func18 (by kernel_rfl) rfl fun (b : Bd) hq => ?_
  obtain ⟨⟨⟨hl1, hl2⟩, hcp⟩, hwp⟩ : chkP b := hq _ rfl
  clear hq
  obtain ⟨bn, ⟨un, ui, ur, uq, um⟩, bc, bw⟩ := b
  have hl1 : bc.length * 64 ≤ 140737488351232 := hl1
  have hl2 : bw.length * 32 ≤ 140737488351232 := hl2
  have hcp : ∀ c ∈ bc, cP c ∧ c.1.size ≤ 140737488351232 := hcp
  have hwp : ∀ w ∈ bw, w.1.size ≤ 140737488351232 := hwp
  obtain ⟨B, hB⟩ : ∃ B : Bd, B = (bn, (un, ui, ur, uq, um), bc, bw) := ⟨_, rfl⟩
  have hBE : boardE (bn, (un, ui, ur, uq, um), bc, bw) = if nameB (bytesOf bn) = false then 15 else if cpuE (un, ui, ur, uq, um) ≠ 0 then cpuE (un, ui, ur, uq, um) else if bc.length > 12 then 2 else if chipsE bc ≠ 0 then chipsE bc
    else if bw.length > 40 then 2 else errL (wireAtE (bn, (un, ui, ur, uq, um), bc, bw)) (List.range bw.length) := rfl
  repeat' first
    | (refine Go.mk ?_; conv => whnf)
    | refine Need.go ?_ ?_
    | refine NilG.go (fun _ => ?_) (fun _ => ?_)
    | refine Br.dec (fun _ => ?_) (fun _ => ?_)
    | refine Br.go (fun _ => ?_) (fun _ => ?_)
    | refine draw_go hT hP mixed ?_
    | refine round_go hT hP ?_
  all_goals (try dsimp only [castL_eq] at *)
  · rename_i g
    have g : nameB (bytesOf bn) = false := by simpa using g
    refine .mk [] [] _ rfl rfl rfl rfl rfl rfl (imm_int ?_)
    rw [hBE, if_pos g]
  · rename_i g g2
    have g : nameB (bytesOf bn) = true := by simpa using g
    have g2 := nz_of (x := cpuE (un, ui, ur, uq, um)) g2
    refine .mk [] [] _ rfl rfl rfl rfl rfl rfl (imm_int ?_)
    rw [hBE, if_neg (by rw [g]; decide), if_pos g2]
  · rename_i g g2 g3
    have g : nameB (bytesOf bn) = true := by simpa using g
    have g2 := ze_of (x := cpuE (un, ui, ur, uq, um)) g2
    have g3 : (bc.length : Int) > 12 := g3
    refine .mk [] [] _ rfl rfl rfl rfl rfl rfl (imm_int ?_)
    rw [hBE, if_neg (by rw [g]; decide), if_neg (fun h => h g2), if_pos (by omega)]
  rename_i g g2 g3
  have g : nameB (bytesOf bn) = true := by simpa using g
  have g2 := ze_of (x := cpuE (un, ui, ur, uq, um)) g2
  have g3 : ¬ (bc.length : Int) > 12 := g3
  rw [if_neg (by rw [g]; decide), if_neg (fun h => h g2), if_neg (by omega)] at hBE
  refine up_go hT hP (A := Unit) bc.length (fun i _ => St.mk [.dead, .cell (.ptr 0 0), .dead, .dead, .dead, .dead, .dead, .dead, .dead, .dead, .dead, .dead, .dead, .dead, .dead, .dead, .dead, .dead, .dead, .dead, .dead, .dead, .dead, .dead, .dead, .dead, .dead, .dead, .dead, .dead, .dead, .dead, .cell (.ro ChipT bc), I bc.length, I i, .dead, .dead, .dead, .dead, .dead, .dead, .dead, .dead, .dead, .dead, .dead, .dead, .dead, .dead, .dead, .dead, .dead, .dead, .dead, .dead, .dead, .dead, .dead, .dead, .dead, .dead, .dead, .dead, .dead, .dead, .dead, .dead, .dead, .dead, .dead, .dead, .dead, .dead, .dead, .dead, .dead, .dead, .dead, .dead, .dead, .dead, .dead, .dead, .dead, .dead, .dead, .dead, .dead, .dead, .dead, .dead, .dead, .dead, .dead, .dead, .dead, .dead, .dead, .dead, .dead, .dead, .dead, .dead, .dead, .dead, .dead, .dead, .dead, .dead, .dead, .dead, .dead, .dead, .dead, .dead, .dead, .dead, .dead, .dead, .dead, .dead, .dead, .dead, .dead, .dead, .dead, .dead, .dead, .dead, .dead, .dead, .dead, .dead, .dead, .dead, .dead, .dead, .dead, .dead]
      [some (.var [.imm (.string bn), .imm (.string un), .ro InsT ui, .ro CycT ur, .ro CycT uq, .ro CycT um, .ro ChipT bc, .ro WireT bw])])
    (fun k _ => errL (fun k => chipAtE (bc.take k) (bc.getD k (dflt ChipT))) ((List.range bc.length).drop k) = chipsE bc ∧ ∀ y ∈ bc.take k, chipE y = 0) () (Le.mk [] [0] rfl rfl ?_ ?_) ⟨rfl, fun y hy => by simp at hy⟩ fun k _ hk ⟨hi, hbef⟩ => ?_
  · exact rfl
  · repeat' first | exact trivial | exact ⟨rfl, rfl⟩ | refine And.intro ?_ ?_
  have hcb : ∀ e : Int, chipsE bc = e → e ≠ 0 → e = boardE (bn, (un, ui, ur, uq, um), bc, bw) := fun e h1 h2 => by
    rw [hBE, if_pos (by rw [h1]; exact h2), h1]
  repeat' first
    | (refine Go.mk ?_; conv => whnf)
    | refine Need.go ?_ ?_
    | refine NilG.go (fun _ => ?_) (fun _ => ?_)
    | refine Br.dec (fun _ => ?_) (fun _ => ?_)
    | refine Br.go (fun _ => ?_) (fun _ => ?_)
    | refine draw_go hT hP mixed ?_
    | refine round_go hT hP ?_
  all_goals (try dsimp only [castL_eq] at *)
  · show 0 ≤ (k : Int) ∧ (k : Int) < (bc.length : Int)
    omega
  · rename_i g4
    have g4 : (k : Int) < (bc.length : Int) := g4
    exact (hcp _ (memD' (dflt ChipT) (show k < bc.length by omega))).1
  · rename_i g4 g5
    have g4 : (k : Int) < (bc.length : Int) := g4
    have g5 : (chipE (bc.getD k (dflt ChipT)) != 0) = true := g5
    have hs := (chipsE_step (e := 0) (show k < bc.length by omega) hi).1
    have e : chipAtE (bc.take k) (bc.getD k (dflt ChipT)) = chipE (bc.getD k (dflt ChipT)) := if_pos (nz_of g5)
    rw [e] at hs
    exact .mk [] [] _ rfl rfl rfl rfl rfl rfl (imm_int (hcb _ (hs (nz_of g5)).symm (nz_of g5)))
  · show 0 ≤ (k : Int) ∧ (k : Int) ≤ (bc.length : Int)
    omega
  · rename_i g4 g5
    have g4 : (k : Int) < (bc.length : Int) := g4
    have g5 : (chipE (bc.getD k (dflt ChipT)) != 0) = false := g5
    have hs := chipsE_step (e := 0) (show k < bc.length by omega) hi
    have e : chipAtE (bc.take k) (bc.getD k (dflt ChipT)) = errL (pairE (bc.getD k (dflt ChipT))) (bc.take k) := if_neg (fun h => h (ze_of g5))
    rw [e] at hs
    have hx : bc.getD (k : Int).toNat (dflt ChipT) = bc.getD k (dflt ChipT) := rfl
    have hbef' : ∀ y ∈ bc.take (k + 1), chipE y = 0 := fun y hy => by
      rw [take_snoc2 (dflt ChipT) (show k < bc.length by omega)] at hy
      rcases List.mem_append.1 hy with hy | hy
      · exact hbef y hy
      · rw [List.mem_singleton.1 hy]; exact ze_of g5
    have htl : (bc.take k).length = k := by rw [List.length_take]; omega
    have hts : ((bc.take (k : Int).toNat).drop 0) = bc.take k := rfl
    rw [hts, hx]
    have hpre : ∀ y ∈ bc.take k, chipE y = 0 := hbef
    generalize bc.getD k (dflt ChipT) = x at *
    obtain ⟨xn, xk, xb, xs, xd⟩ := x
    generalize bc.take k = pre at *
    refine up_go hT hP (A := Unit) pre.length (fun j _ => St.mk [.dead, .cell (.ptr 0 0), .dead, .dead, .dead, .cell (.ptr 1 0), .dead, .dead, .dead, .dead, .dead, .dead, .dead, .dead, .dead, .dead, .dead, .dead, .dead, .dead, .dead, .dead, .dead, .dead, .dead, .dead, .dead, .dead, .dead, .dead, .dead, .dead, .cell (.ro ChipT bc), I bc.length, I k, .dead, .dead, .dead, .dead, .dead, .dead, .dead, .dead, .dead, .dead, .dead, .dead, .cell (.ro ChipT pre), I pre.length, I j, .dead, .dead, .dead, .dead, .dead, .dead, .dead, .dead, .dead, .dead, .dead, .dead, .dead, .dead, .dead, .dead, .dead, .dead, .dead, .dead, .dead, .dead, .dead, .dead, .dead, .dead, .dead, .dead, .dead, .dead, .dead, .dead, .dead, .dead, .dead, .dead, .dead, .dead, .dead, .dead, .dead, .dead, .dead, .dead, .dead, .dead, .dead, .dead, .dead, .dead, .dead, .dead, .dead, .dead, .dead, .dead, .dead, .dead, .dead, .dead, .dead, .dead, .dead, .dead, .dead, .dead, .dead, .dead, .dead, .dead, .dead, .dead, .dead, .dead, .dead, .dead, .dead, .dead, .dead, .dead, .dead, .dead, .dead, .dead, .dead, .dead, .dead, .dead, .dead]
        [some (.var [.imm (.string bn), .imm (.string un), .ro InsT ui, .ro CycT ur, .ro CycT uq, .ro CycT um, .ro ChipT bc, .ro WireT bw]), some (.var [.imm (.string xn), iv .i64 xk, iv .i64 xb, iv .i64 xs, .ro (.int .u8) xd])])
      (fun j _ => errL (pairE (xn, xk, xb, xs, xd)) (pre.drop j) = errL (pairE (xn, xk, xb, xs, xd)) pre) () (Le.mk [] [0, 1] rfl rfl ?_ ?_) rfl fun j _ hj hi2 => ?_
    · exact rfl
    · repeat' first | exact trivial | exact ⟨rfl, rfl⟩ | refine And.intro ?_ ?_
    repeat' first
      | (refine Go.mk ?_; conv => whnf)
      | refine Need.go ?_ ?_
      | refine NilG.go (fun _ => ?_) (fun _ => ?_)
      | refine Br.dec (fun _ => ?_) (fun _ => ?_)
      | refine Br.go (fun _ => ?_) (fun _ => ?_)
      | refine draw_go hT hP mixed ?_
      | refine round_go hT hP ?_
    all_goals (try dsimp only [castL_eq] at *)
    all_goals clear hT hP
    all_goals (generalize hy : pre.getD (j : Int).toNat (dflt ChipT) = y at *; obtain ⟨yn, yk, yb, ys, yd⟩ := y)
    all_goals (replace hy : pre.getD j (dflt ChipT) = (yn, yk, yb, ys, yd) := hy)
    all_goals (have hok : pairE (xn, xk, xb, xs, xd) (yn, yk, yb, ys, yd) = 0 → (j : Int) < (pre.length : Int) → errL (pairE (xn, xk, xb, xs, xd)) (pre.drop (j + 1)) = errL (pairE (xn, xk, xb, xs, xd)) pre := fun h0 h1 => (errL_ok (f := pairE (xn, xk, xb, xs, xd)) (dflt ChipT) (show j < pre.length by omega) (by rw [hy, h0])).symm.trans hi2)
    · show 0 ≤ (j : Int) ∧ (j : Int) < (pre.length : Int)
      omega
    · rename_i g6 g7
      have g6 : (j : Int) < (pre.length : Int) := g6
      have g7 : strEq xn yn = true := g7
      have g7 : strEq yn xn = true := strEq_iff.2 (strEq_iff.1 g7).symm
      have e5 : pairE (xn, xk, xb, xs, xd) (yn, yk, yb, ys, yd) = 5 := if_pos g7
      have e6 := errL_no (f := pairE (xn, xk, xb, xs, xd)) (dflt ChipT) (show j < pre.length by omega) (by rw [hy, e5]; decide)
      rw [hy, e5, hi2] at e6
      rw [e6] at hs
      exact .mk [] [] _ rfl rfl rfl rfl rfl rfl (imm_int (hcb _ (hs.1 (by decide)).symm (by decide)))
    · rename_i g6 g7 g8
      have g6 : (j : Int) < (pre.length : Int) := g6
      have g7 : strEq xn yn = false := g7
      have g7' : ¬ strEq yn xn = true := fun h => by rw [strEq_iff.2 (strEq_iff.1 h).symm] at g7; cases g7
      have hyE : chipE (yn, yk, yb, ys, yd) = 0 := by rw [← hy]; exact hpre _ (memD' (dflt ChipT) (show j < pre.length by omega))
      have g8 := (clash_iff (c := (xn, xk, xb, xs, xd)) (d := (yn, yk, yb, ys, yd)) (ze_of g5) hyE).1 g8
      have e5 : pairE (xn, xk, xb, xs, xd) (yn, yk, yb, ys, yd) = 16 := by
        unfold pairE
        rw [if_neg g7', if_pos g8]
      have e6 := errL_no (f := pairE (xn, xk, xb, xs, xd)) (dflt ChipT) (show j < pre.length by omega) (by rw [hy, e5]; decide)
      rw [hy, e5, hi2] at e6
      rw [e6] at hs
      exact .mk [] [] _ rfl rfl rfl rfl rfl rfl (imm_int (hcb _ (hs.1 (by decide)).symm (by decide)))
    · rename_i g6 g7 g8
      have g6 : (j : Int) < (pre.length : Int) := g6
      have g7 : strEq xn yn = false := g7
      have g7' : ¬ strEq yn xn = true := fun h => by rw [strEq_iff.2 (strEq_iff.1 h).symm] at g7; cases g7
      have hyE : chipE (yn, yk, yb, ys, yd) = 0 := by rw [← hy]; exact hpre _ (memD' (dflt ChipT) (show j < pre.length by omega))
      have g8 := fun h => g8 ((clash_iff (c := (xn, xk, xb, xs, xd)) (d := (yn, yk, yb, ys, yd)) (ze_of g5) hyE).2 h)
      apply Exists.intro
      apply Exists.intro ()
      refine And.intro (And.intro ?lt152 (And.intro ?ei152 ?inv152)) (Le.mk [] [0, 1] rfl rfl ?hh152 ?ht152)
      case hh152 => exact rfl
      case ht152 => repeat' first | exact trivial | exact ⟨rfl, rfl⟩ | refine And.intro ?_ ?_
      case lt152 => omega
      case ei152 => exact up_i (by omega)
      refine hok ?_ g6
      unfold pairE
      rw [if_neg g7', if_neg g8]
    · rename_i g6
      have g6 : ¬ (j : Int) < (pre.length : Int) := g6
      have e0 : errL (pairE (xn, xk, xb, xs, xd)) pre = 0 := by
        rw [← hi2, List.drop_of_length_le (by omega)]; rfl
      apply Exists.intro
      apply Exists.intro ()
      refine And.intro (And.intro ?lt166 (And.intro ?ei166 ?inv166)) (Le.mk [] [0] rfl rfl ?hh166 ?ht166)
      case hh166 => exact rfl
      case ht166 => repeat' first | exact trivial | exact ⟨rfl, rfl⟩ | refine And.intro ?_ ?_
      case lt166 => omega
      case ei166 => exact up_i (by omega)
      exact ⟨hs.2 e0, hbef'⟩
  · rename_i g4 g5
    have g4 : ¬ (k : Int) < (bc.length : Int) := g4
    have g5 : (bw.length : Int) > 40 := g5
    have h0 : chipsE bc = 0 := by
      rw [← hi, List.drop_of_length_le (by rw [List.length_range]; omega)]; rfl
    refine .mk [] [] _ rfl rfl rfl rfl rfl rfl (imm_int ?_)
    rw [hBE, if_neg (fun h => h h0), if_pos (by omega)]
  rename_i g4 g5
  have g4 : ¬ (k : Int) < (bc.length : Int) := g4
  have g5 : ¬ (bw.length : Int) > 40 := g5
  have h0 : chipsE bc = 0 := by
    rw [← hi, List.drop_of_length_le (by rw [List.length_range]; omega)]; rfl
  rw [if_neg (fun h => h h0), if_neg (by omega)] at hBE
  clear hi hcb
  refine up_go hT hP (A := List (Den WireT × Den .bool)) bw.length (fun i M => St.mk [.dead, .cell (.ptr 0 0), .dead, .dead, .dead, .dead, .dead, .dead, .dead, .cell (.map 1), .dead, .dead, .dead, .dead, .dead, .dead, .dead, .dead, .dead, .dead, .dead, .dead, .dead, .dead, .dead, .dead, .dead, .dead, .dead, .dead, .dead, .dead, .dead, .dead, .dead, .dead, .dead, .dead, .dead, .dead, .dead, .dead, .dead, .dead, .dead, .dead, .dead, .dead, .dead, .dead, .dead, .dead, .dead, .dead, .dead, .dead, .dead, .dead, .dead, .dead, .dead, .dead, .dead, .dead, .dead, .dead, .dead, .dead, .dead, .dead, .dead, .dead, .dead, .dead, .dead, .dead, .dead, .dead, .dead, .dead, .dead, .dead, .dead, .cell (.ro WireT bw), I bw.length, I i, .dead, .dead, .dead, .dead, .dead, .dead, .dead, .dead, .dead, .dead, .dead, .dead, .dead, .dead, .dead, .dead, .dead, .dead, .dead, .dead, .dead, .dead, .dead, .dead, .dead, .dead, .dead, .dead, .dead, .dead, .dead, .dead, .dead, .dead, .dead, .dead, .dead, .dead, .dead, .dead, .dead, .dead, .dead, .dead, .dead, .dead, .dead, .dead, .dead, .dead, .dead, .dead, .dead]
      [some (.var [.imm (.string bn), .imm (.string un), .ro InsT ui, .ro CycT ur, .ro CycT uq, .ro CycT um, .ro ChipT bc, .ro WireT bw]), some (.mp true WireT .bool M)])
    (fun k M => errL (wireAtE (bn, (un, ui, ur, uq, um), bc, bw)) ((List.range bw.length).drop k) = errL (wireAtE (bn, (un, ui, ur, uq, um), bc, bw)) (List.range bw.length) ∧ wKeys M (bw.take k)) [] (Le.mk [] [0, 1] rfl rfl ?_ ?_) ⟨rfl, fun _ => rfl⟩ fun q M hq ⟨hj, hM⟩ => ?_
  · exact rfl
  · repeat' first | exact trivial | exact ⟨rfl, rfl⟩ | refine And.intro ?_ ?_
  have hA : wireAtE (bn, (un, ui, ur, uq, um), bc, bw) q = if wireE (bn, (un, ui, ur, uq, um), bc, bw) (bw.getD q (dflt WireT)) ≠ 0 then wireE (bn, (un, ui, ur, uq, um), bc, bw) (bw.getD q (dflt WireT)) else if (bw.take q).any (sameW (bw.getD q (dflt WireT))) = true then 5 else 0 := rfl
  have hs := fun h => wiresE_step (b := (bn, (un, ui, ur, uq, um), bc, bw)) (k := q) h hj
  rw [hA] at hs
  have hsz := fun h : q < bw.length => hwp _ (memD' (dflt WireT) h)
  repeat' first
    | (refine Go.mk ?_; conv => whnf)
    | refine Need.go ?_ ?_
    | refine NilG.go (fun _ => ?_) (fun _ => ?_)
    | refine Br.dec (fun _ => ?_) (fun _ => ?_)
    | refine Br.go (fun _ => ?_) (fun _ => ?_)
    | refine draw_go hT hP mixed ?_
    | refine round_go hT hP ?_
  all_goals (try dsimp only [castL_eq] at *)
  all_goals (generalize hw : bw.getD (q : Int).toNat (dflt WireT) = w at *; obtain ⟨wf, wt⟩ := w)
  all_goals (replace hw : bw.getD q (dflt WireT) = (wf, wt) := hw)
  all_goals (rw [hw] at hs hsz)
  all_goals (have hWE : wireE (bn, (un, ui, ur, uq, um), bc, bw) (wf, wt) = if fstI (nmB (cutB wf)) bc < 0 then 4 else if strEq (cutA wf) irqP = false ∨ askK (bc.getD (fstI (nmB (cutB wf)) bc).toNat (dflt ChipT)).2.1 = false then 8 else if strEq wt cpuIrq = false then 20 else 0 := rfl)
  · show 0 ≤ (q : Int) ∧ (q : Int) < (bw.length : Int)
    omega
  · rename_i g6 g7
    have g7 : dotI wf ≥ 0 := g7
    have := dotI_in g7
    show 0 ≤ dotI wf ∧ dotI wf ≤ (wf.size : Int)
    omega
  · rename_i g6 g7
    have g6 : (q : Int) < (bw.length : Int) := g6
    have hs := hs (by show q < bw.length; omega)
    have hsz : wf.size ≤ 140737488351232 := hsz (by omega)
    have g7 : dotI wf ≥ 0 := g7
    have hnm : cutB wf = (wf.extract 0 (dotI wf).toNat) := if_pos g7
    have hns : ((wf.extract 0 (dotI wf).toNat)).size ≤ 140737488351232 := by rw [ByteArray.size_extract]; omega
    refine up_go hT hP (A := Int) bc.length (fun j kd => St.mk [.dead, .cell (.ptr 0 0), .dead, .dead, .dead, .dead, .dead, .dead, .dead, .cell (.map 1), .dead, .cell (.ptr 2 0), .cell (.imm (.string (wf.extract 0 (dotI wf).toNat))), .dead, I kd, .dead, .dead, .dead, .dead, .dead, .dead, .dead, .dead, .dead, .dead, .dead, .dead, .dead, .dead, .dead, .dead, .dead, .dead, .dead, .dead, .dead, .dead, .dead, .dead, .dead, .dead, .dead, .dead, .dead, .dead, .dead, .dead, .dead, .dead, .dead, .dead, .dead, .dead, .dead, .dead, .dead, .dead, .dead, .dead, .dead, .dead, .dead, .dead, .dead, .dead, .dead, .dead, .dead, .dead, .dead, .dead, .dead, .dead, .dead, .dead, .dead, .dead, .dead, .dead, .dead, .dead, .dead, .dead, .cell (.ro WireT bw), I bw.length, I q, .dead, .dead, .dead, .dead, .dead, .dead, .dead, .dead, .dead, .dead, .dead, .dead, .dead, .dead, .dead, .cell (.ro ChipT bc), I bc.length, I j, .dead, .dead, .dead, .dead, .dead, .dead, .dead, .dead, .dead, .dead, .dead, .dead, .dead, .dead, .dead, .dead, .dead, .dead, .dead, .dead, .dead, .dead, .dead, .dead, .dead, .dead, .dead, .dead, .dead, .dead, .dead, .dead, .dead, .dead, .dead]
        [some (.var [.imm (.string bn), .imm (.string un), .ro InsT ui, .ro CycT ur, .ro CycT uq, .ro CycT um, .ro ChipT bc, .ro WireT bw]), some (.mp true WireT .bool M), some (.var [.imm (.string wf), .imm (.string wt)])])
      (fun j kd => kd = kindL (wf.extract 0 (dotI wf).toNat) (bc.take j)) (-1) (Le.mk [] [0, 1, 2] rfl rfl ?_ ?_) rfl fun j kd hj3 hkd => ?_
    · exact rfl
    · repeat' first | exact trivial | exact ⟨rfl, rfl⟩ | refine And.intro ?_ ?_
    have hk2 : j = bc.length → kd = kindL (wf.extract 0 (dotI wf).toNat) bc := fun e => by rw [hkd, e, List.take_length]
    repeat' first
      | (refine Go.mk ?_; conv => whnf)
      | refine Need.go ?_ ?_
      | refine NilG.go (fun _ => ?_) (fun _ => ?_)
      | refine Br.dec (fun _ => ?_) (fun _ => ?_)
      | refine Br.go (fun _ => ?_) (fun _ => ?_)
      | refine draw_go hT hP mixed ?_
      | refine round_go hT hP ?_
    all_goals (try dsimp only [castL_eq] at *)
    all_goals clear hT hP
    · show 0 ≤ (j : Int) ∧ (j : Int) < (bc.length : Int)
      omega
    · rename_i g8 g9
      have g8 : (j : Int) < (bc.length : Int) := g8
      have g9 : strEq (bc.getD j (dflt ChipT)).1 (wf.extract 0 (dotI wf).toNat) = true := g9
      apply Exists.intro
      apply Exists.intro _
      refine And.intro (And.intro ?lt245 (And.intro ?ei245 ?inv245)) (Le.mk [] [0, 1, 2] rfl rfl ?hh245 ?ht245)
      case hh245 => exact rfl
      case ht245 => repeat' first | exact trivial | exact ⟨rfl, rfl⟩ | refine And.intro ?_ ?_
      case lt245 => omega
      case ei245 => exact up_i (by omega)
      rw [kindL_step (show j < bc.length by omega)]
      exact (if_pos g9).symm
    · rename_i g8 g9
      have g8 : (j : Int) < (bc.length : Int) := g8
      have g9 : strEq (bc.getD j (dflt ChipT)).1 (wf.extract 0 (dotI wf).toNat) = false := g9
      apply Exists.intro
      apply Exists.intro _
      refine And.intro (And.intro ?lt257 (And.intro ?ei257 ?inv257)) (Le.mk [] [0, 1, 2] rfl rfl ?hh257 ?ht257)
      case hh257 => exact rfl
      case ht257 => repeat' first | exact trivial | exact ⟨rfl, rfl⟩ | refine And.intro ?_ ?_
      case lt257 => omega
      case ei257 => exact up_i (by omega)
      rw [kindL_step (show j < bc.length by omega), hkd]
      exact (if_neg (by rw [g9]; decide)).symm
    · rename_i g8 g9
      have g8 : ¬ (j : Int) < (bc.length : Int) := g8
      have hk3 := hk2 (by omega)
      have g9 : kd < 0 := g9
      rw [hk3, kindL_neg h0] at g9
      have e4 : wireE (bn, (un, ui, ur, uq, um), bc, bw) (wf, wt) = 4 := by rw [hWE, hnm, if_pos g9]
      rw [e4, if_pos (by decide)] at hs
      refine .mk [] [] _ rfl rfl rfl rfl rfl rfl (imm_int ?_)
      rw [hBE, ← hs.1 (by decide)]
    · show ((wf.extract 0 (dotI wf).toNat)).size + 4 < 4611686018427387904
      omega
    all_goals (have hk3 := fun h : ¬ (j : Int) < (bc.length : Int) => hk2 (by omega))
    all_goals (
      have hF : ¬ kd < 0 → ¬ (j : Int) < (bc.length : Int) → (¬ fstI (nmB (cutB wf)) bc < 0) ∧ kd = (bc.getD (fstI (nmB (cutB wf)) bc).toNat (dflt ChipT)).2.1 := fun h1 h2 => by
        have e := hk3 h2
        have h4 : ¬ fstI (nmB (cutB wf)) bc < 0 := fun h => h1 (by rw [hnm] at h; rw [e, kindL_neg h0]; exact h)
        refine ⟨h4, ?_⟩
        rw [hnm] at h4 ⊢
        rw [e, kindL_eq (names_differ h0), if_neg h4])
    all_goals (have hp := pin_eq wf; rw [hnm] at hp)
    · rename_i g8 g9 g10
      obtain ⟨f1, f2⟩ := hF g9 g8
      have g10 : (!strEq wf ((wf.extract 0 (dotI wf).toNat) ++ irqS)) = true := g10
      rw [hp] at g10
      have e4 : wireE (bn, (un, ui, ur, uq, um), bc, bw) (wf, wt) = 8 := by rw [hWE, if_neg f1, if_pos (.inl (by simpa using g10))]
      rw [e4, if_pos (by decide)] at hs
      refine .mk [] [] _ rfl rfl rfl rfl rfl rfl (imm_int ?_)
      rw [hBE, ← hs.1 (by decide)]
    · rename_i g8 g9 g10 g11
      obtain ⟨f1, f2⟩ := hF g9 g8
      have g11 : (!askK kd) = true := g11
      rw [f2] at g11
      have e4 : wireE (bn, (un, ui, ur, uq, um), bc, bw) (wf, wt) = 8 := by rw [hWE, if_neg f1, if_pos (.inr (by simpa using g11))]
      rw [e4, if_pos (by decide)] at hs
      refine .mk [] [] _ rfl rfl rfl rfl rfl rfl (imm_int ?_)
      rw [hBE, ← hs.1 (by decide)]
    · rename_i g8 g9 g10 g11 g12
      obtain ⟨f1, f2⟩ := hF g9 g8
      have g10 : (!strEq wf ((wf.extract 0 (dotI wf).toNat) ++ irqS)) = false := g10
      rw [hp] at g10
      have g11 : (!askK kd) = false := g11
      rw [f2] at g11
      have g12 : (!strEq wt cpuIrq) = true := g12
      have e4 : wireE (bn, (un, ui, ur, uq, um), bc, bw) (wf, wt) = 20 := by
        rw [hWE, if_neg f1, if_neg (fun h => h.elim (fun h => by rw [h] at g10; cases g10) (fun h => by rw [h] at g11; cases g11)), if_pos (by simpa using g12)]
      rw [e4, if_pos (by decide)] at hs
      refine .mk [] [] _ rfl rfl rfl rfl rfl rfl (imm_int ?_)
      rw [hBE, ← hs.1 (by decide)]
    · rename_i g8 g9 g10 g11 g12 g13
      obtain ⟨f1, f2⟩ := hF g9 g8
      have g10 : (!strEq wf ((wf.extract 0 (dotI wf).toNat) ++ irqS)) = false := g10
      rw [hp] at g10
      have g11 : (!askK kd) = false := g11
      rw [f2] at g11
      have g12 : (!strEq wt cpuIrq) = false := g12
      have g13 : getOr (mapGet M (wf, wt)) (dflt .bool) = true := g13
      have g13 : (bw.take q).any (sameW (wf, wt)) = true := (hM (wf, wt)).symm.trans g13
      have e4 : wireE (bn, (un, ui, ur, uq, um), bc, bw) (wf, wt) = 0 := by
        rw [hWE, if_neg f1, if_neg (fun h => h.elim (fun h => by rw [h] at g10; cases g10) (fun h => by rw [h] at g11; cases g11)), if_neg (fun h => by rw [h] at g12; cases g12)]
      rw [e4, if_neg (by decide), if_pos g13] at hs
      refine .mk [] [] _ rfl rfl rfl rfl rfl rfl (imm_int ?_)
      rw [hBE, ← hs.1 (by decide)]
    · rename_i g8 g9 g10 g11 g12 g13
      obtain ⟨f1, f2⟩ := hF g9 g8
      have g10 : (!strEq wf ((wf.extract 0 (dotI wf).toNat) ++ irqS)) = false := g10
      rw [hp] at g10
      have g11 : (!askK kd) = false := g11
      rw [f2] at g11
      have g12 : (!strEq wt cpuIrq) = false := g12
      have g13 : getOr (mapGet M (wf, wt)) (dflt .bool) = false := g13
      have g13 : (bw.take q).any (sameW (wf, wt)) = false := (hM (wf, wt)).symm.trans g13
      have e4 : wireE (bn, (un, ui, ur, uq, um), bc, bw) (wf, wt) = 0 := by
        rw [hWE, if_neg f1, if_neg (fun h => h.elim (fun h => by rw [h] at g10; cases g10) (fun h => by rw [h] at g11; cases g11)), if_neg (fun h => by rw [h] at g12; cases g12)]
      rw [e4, if_neg (by decide), if_neg (by rw [g13]; decide)] at hs
      apply Exists.intro
      apply Exists.intro (mapPut M (wf, wt) true)
      refine And.intro (And.intro ?lt340 (And.intro ?ei340 ?inv340)) (Le.mk [] [0, 1] rfl rfl ?hh340 ?ht340)
      case hh340 => exact rfl
      case ht340 => repeat' first | exact trivial | exact ⟨rfl, rfl⟩ | refine And.intro ?_ ?_
      case lt340 => omega
      case ei340 => exact up_i (by omega)
      exact ⟨hs.2 rfl, wKeys_put hM (by omega) hw⟩
  · rename_i g6 g7
    have g6 : (q : Int) < (bw.length : Int) := g6
    have hs := hs (by show q < bw.length; omega)
    have hsz : wf.size ≤ 140737488351232 := hsz (by omega)
    have g7 : ¬ dotI wf ≥ 0 := g7
    have hnm : cutB wf = wf := if_neg g7
    have hns : (wf).size ≤ 140737488351232 := hsz
    refine up_go hT hP (A := Int) bc.length (fun j kd => St.mk [.dead, .cell (.ptr 0 0), .dead, .dead, .dead, .dead, .dead, .dead, .dead, .cell (.map 1), .dead, .cell (.ptr 2 0), .cell (.imm (.string wf)), .dead, I kd, .dead, .dead, .dead, .dead, .dead, .dead, .dead, .dead, .dead, .dead, .dead, .dead, .dead, .dead, .dead, .dead, .dead, .dead, .dead, .dead, .dead, .dead, .dead, .dead, .dead, .dead, .dead, .dead, .dead, .dead, .dead, .dead, .dead, .dead, .dead, .dead, .dead, .dead, .dead, .dead, .dead, .dead, .dead, .dead, .dead, .dead, .dead, .dead, .dead, .dead, .dead, .dead, .dead, .dead, .dead, .dead, .dead, .dead, .dead, .dead, .dead, .dead, .dead, .dead, .dead, .dead, .dead, .dead, .cell (.ro WireT bw), I bw.length, I q, .dead, .dead, .dead, .dead, .dead, .dead, .dead, .dead, .dead, .dead, .dead, .dead, .dead, .dead, .dead, .cell (.ro ChipT bc), I bc.length, I j, .dead, .dead, .dead, .dead, .dead, .dead, .dead, .dead, .dead, .dead, .dead, .dead, .dead, .dead, .dead, .dead, .dead, .dead, .dead, .dead, .dead, .dead, .dead, .dead, .dead, .dead, .dead, .dead, .dead, .dead, .dead, .dead, .dead, .dead, .dead]
        [some (.var [.imm (.string bn), .imm (.string un), .ro InsT ui, .ro CycT ur, .ro CycT uq, .ro CycT um, .ro ChipT bc, .ro WireT bw]), some (.mp true WireT .bool M), some (.var [.imm (.string wf), .imm (.string wt)])])
      (fun j kd => kd = kindL wf (bc.take j)) (-1) (Le.mk [] [0, 1, 2] rfl rfl ?_ ?_) rfl fun j kd hj3 hkd => ?_
    · exact rfl
    · repeat' first | exact trivial | exact ⟨rfl, rfl⟩ | refine And.intro ?_ ?_
    have hk2 : j = bc.length → kd = kindL wf bc := fun e => by rw [hkd, e, List.take_length]
    repeat' first
      | (refine Go.mk ?_; conv => whnf)
      | refine Need.go ?_ ?_
      | refine NilG.go (fun _ => ?_) (fun _ => ?_)
      | refine Br.dec (fun _ => ?_) (fun _ => ?_)
      | refine Br.go (fun _ => ?_) (fun _ => ?_)
      | refine draw_go hT hP mixed ?_
      | refine round_go hT hP ?_
    all_goals (try dsimp only [castL_eq] at *)
    all_goals clear hT hP
    · show 0 ≤ (j : Int) ∧ (j : Int) < (bc.length : Int)
      omega
    · rename_i g8 g9
      have g8 : (j : Int) < (bc.length : Int) := g8
      have g9 : strEq (bc.getD j (dflt ChipT)).1 wf = true := g9
      apply Exists.intro
      apply Exists.intro _
      refine And.intro (And.intro ?lt376 (And.intro ?ei376 ?inv376)) (Le.mk [] [0, 1, 2] rfl rfl ?hh376 ?ht376)
      case hh376 => exact rfl
      case ht376 => repeat' first | exact trivial | exact ⟨rfl, rfl⟩ | refine And.intro ?_ ?_
      case lt376 => omega
      case ei376 => exact up_i (by omega)
      rw [kindL_step (show j < bc.length by omega)]
      exact (if_pos g9).symm
    · rename_i g8 g9
      have g8 : (j : Int) < (bc.length : Int) := g8
      have g9 : strEq (bc.getD j (dflt ChipT)).1 wf = false := g9
      apply Exists.intro
      apply Exists.intro _
      refine And.intro (And.intro ?lt388 (And.intro ?ei388 ?inv388)) (Le.mk [] [0, 1, 2] rfl rfl ?hh388 ?ht388)
      case hh388 => exact rfl
      case ht388 => repeat' first | exact trivial | exact ⟨rfl, rfl⟩ | refine And.intro ?_ ?_
      case lt388 => omega
      case ei388 => exact up_i (by omega)
      rw [kindL_step (show j < bc.length by omega), hkd]
      exact (if_neg (by rw [g9]; decide)).symm
    · rename_i g8 g9
      have g8 : ¬ (j : Int) < (bc.length : Int) := g8
      have hk3 := hk2 (by omega)
      have g9 : kd < 0 := g9
      rw [hk3, kindL_neg h0] at g9
      have e4 : wireE (bn, (un, ui, ur, uq, um), bc, bw) (wf, wt) = 4 := by rw [hWE, hnm, if_pos g9]
      rw [e4, if_pos (by decide)] at hs
      refine .mk [] [] _ rfl rfl rfl rfl rfl rfl (imm_int ?_)
      rw [hBE, ← hs.1 (by decide)]
    · show (wf).size + 4 < 4611686018427387904
      omega
    all_goals (have hk3 := fun h : ¬ (j : Int) < (bc.length : Int) => hk2 (by omega))
    all_goals (
      have hF : ¬ kd < 0 → ¬ (j : Int) < (bc.length : Int) → (¬ fstI (nmB (cutB wf)) bc < 0) ∧ kd = (bc.getD (fstI (nmB (cutB wf)) bc).toNat (dflt ChipT)).2.1 := fun h1 h2 => by
        have e := hk3 h2
        have h4 : ¬ fstI (nmB (cutB wf)) bc < 0 := fun h => h1 (by rw [hnm] at h; rw [e, kindL_neg h0]; exact h)
        refine ⟨h4, ?_⟩
        rw [hnm] at h4 ⊢
        rw [e, kindL_eq (names_differ h0), if_neg h4])
    all_goals (have hp := pin_eq wf; rw [hnm] at hp)
    · rename_i g8 g9 g10
      obtain ⟨f1, f2⟩ := hF g9 g8
      have g10 : (!strEq wf (wf ++ irqS)) = true := g10
      rw [hp] at g10
      have e4 : wireE (bn, (un, ui, ur, uq, um), bc, bw) (wf, wt) = 8 := by rw [hWE, if_neg f1, if_pos (.inl (by simpa using g10))]
      rw [e4, if_pos (by decide)] at hs
      refine .mk [] [] _ rfl rfl rfl rfl rfl rfl (imm_int ?_)
      rw [hBE, ← hs.1 (by decide)]
    · rename_i g8 g9 g10 g11
      obtain ⟨f1, f2⟩ := hF g9 g8
      have g11 : (!askK kd) = true := g11
      rw [f2] at g11
      have e4 : wireE (bn, (un, ui, ur, uq, um), bc, bw) (wf, wt) = 8 := by rw [hWE, if_neg f1, if_pos (.inr (by simpa using g11))]
      rw [e4, if_pos (by decide)] at hs
      refine .mk [] [] _ rfl rfl rfl rfl rfl rfl (imm_int ?_)
      rw [hBE, ← hs.1 (by decide)]
    · rename_i g8 g9 g10 g11 g12
      obtain ⟨f1, f2⟩ := hF g9 g8
      have g10 : (!strEq wf (wf ++ irqS)) = false := g10
      rw [hp] at g10
      have g11 : (!askK kd) = false := g11
      rw [f2] at g11
      have g12 : (!strEq wt cpuIrq) = true := g12
      have e4 : wireE (bn, (un, ui, ur, uq, um), bc, bw) (wf, wt) = 20 := by
        rw [hWE, if_neg f1, if_neg (fun h => h.elim (fun h => by rw [h] at g10; cases g10) (fun h => by rw [h] at g11; cases g11)), if_pos (by simpa using g12)]
      rw [e4, if_pos (by decide)] at hs
      refine .mk [] [] _ rfl rfl rfl rfl rfl rfl (imm_int ?_)
      rw [hBE, ← hs.1 (by decide)]
    · rename_i g8 g9 g10 g11 g12 g13
      obtain ⟨f1, f2⟩ := hF g9 g8
      have g10 : (!strEq wf (wf ++ irqS)) = false := g10
      rw [hp] at g10
      have g11 : (!askK kd) = false := g11
      rw [f2] at g11
      have g12 : (!strEq wt cpuIrq) = false := g12
      have g13 : getOr (mapGet M (wf, wt)) (dflt .bool) = true := g13
      have g13 : (bw.take q).any (sameW (wf, wt)) = true := (hM (wf, wt)).symm.trans g13
      have e4 : wireE (bn, (un, ui, ur, uq, um), bc, bw) (wf, wt) = 0 := by
        rw [hWE, if_neg f1, if_neg (fun h => h.elim (fun h => by rw [h] at g10; cases g10) (fun h => by rw [h] at g11; cases g11)), if_neg (fun h => by rw [h] at g12; cases g12)]
      rw [e4, if_neg (by decide), if_pos g13] at hs
      refine .mk [] [] _ rfl rfl rfl rfl rfl rfl (imm_int ?_)
      rw [hBE, ← hs.1 (by decide)]
    · rename_i g8 g9 g10 g11 g12 g13
      obtain ⟨f1, f2⟩ := hF g9 g8
      have g10 : (!strEq wf (wf ++ irqS)) = false := g10
      rw [hp] at g10
      have g11 : (!askK kd) = false := g11
      rw [f2] at g11
      have g12 : (!strEq wt cpuIrq) = false := g12
      have g13 : getOr (mapGet M (wf, wt)) (dflt .bool) = false := g13
      have g13 : (bw.take q).any (sameW (wf, wt)) = false := (hM (wf, wt)).symm.trans g13
      have e4 : wireE (bn, (un, ui, ur, uq, um), bc, bw) (wf, wt) = 0 := by
        rw [hWE, if_neg f1, if_neg (fun h => h.elim (fun h => by rw [h] at g10; cases g10) (fun h => by rw [h] at g11; cases g11)), if_neg (fun h => by rw [h] at g12; cases g12)]
      rw [e4, if_neg (by decide), if_neg (by rw [g13]; decide)] at hs
      apply Exists.intro
      apply Exists.intro (mapPut M (wf, wt) true)
      refine And.intro (And.intro ?lt471 (And.intro ?ei471 ?inv471)) (Le.mk [] [0, 1] rfl rfl ?hh471 ?ht471)
      case hh471 => exact rfl
      case ht471 => repeat' first | exact trivial | exact ⟨rfl, rfl⟩ | refine And.intro ?_ ?_
      case lt471 => omega
      case ei471 => exact up_i (by omega)
      exact ⟨hs.2 rfl, wKeys_put hM (by omega) hw⟩
  · rename_i g6
    have g6 : ¬ (q : Int) < (bw.length : Int) := g6
    refine .mk [] [] _ rfl rfl rfl rfl rfl rfl (imm_int ?_)
    rw [hBE, ← hj, List.drop_of_length_le (by rw [List.length_range]; omega)]; rfl

end Go.Proofs.YtofgbclopbmlcaaGreat

/- What is wrong with a machine's state and its inputs, as plain functions. -/
namespace Go.Proofs.YtofgbclopbmlcaaGreat
open Go.Fw
set_option linter.unusedVariables false
set_option linter.unusedSimpArgs false
set_option linter.constructorNameAsVariable false
set_option maxRecDepth 100000

theorem neN {a b : Nat} (h : ((a : Int) != (b : Int)) = true) : a ≠ b := fun e => by subst e; simp at h
theorem eqN {a b : Nat} (h : ((a : Int) != (b : Int)) = false) : a = b := by simp at h; omega
theorem rangeE_step {f : Nat → Int} {n k : Nat} (hk : k < n) (hi : errL f ((List.range n).drop k) = errL f (List.range n)) :
    (f k ≠ 0 → f k = errL f (List.range n)) ∧ (f k = 0 → errL f ((List.range n).drop (k + 1)) = errL f (List.range n)) := by
  have hr : k < (List.range n).length := by rw [List.length_range]; exact hk
  have e1 := range_get hk
  constructor
  · intro h
    rw [← hi, errL_no 0 hr (by rw [e1]; exact h), e1]
  · intro h
    rw [← hi, errL_ok 0 hr (by rw [e1]; exact h)]
theorem rangeE_end {f : Nat → Int} {n k : Nat} (hk : ¬ k < n) (hi : errL f ((List.range n).drop k) = errL f (List.range n)) : errL f (List.range n) = 0 := by
  rw [← hi, List.drop_of_length_le (by rw [List.length_range]; omega)]; rfl
/-- what is wrong with an input: its time, its chip -/
def inpE (bc : List Cv) (l : List Inp) (k : Nat) : Int :=
  if 0 < k ∧ (l.getD k (dflt InpT)).1 < (l.getD (k - 1) (dflt InpT)).1 then 9
  else if strEq (l.getD k (dflt InpT)).2.1 cpuStr = true ∨ bc.any (nmB (l.getD k (dflt InpT)).2.1) = true then 0 else 4
def stateE (b : Bd) (m : Mach) (l : List Inp) : Int :=
  if boardE b ≠ 0 then boardE b else if m.2.2.1.length ≠ b.2.2.1.length then 3
  else if m.1 < 0 ∨ m.1 > 1099511627776 then 1 else if l.length > 500 then 2
  else errL (inpE b.2.2.1 l) (List.range l.length)
def stP (b : Bd) (m : Mach) (l : List Inp) : Prop := chkP b ∧ l.length ≤ 4611686018427387904
def mcheckS : PSpec := ⟨[gBd, gM, gIn], fun (b, m, l, _) => (some (stP b m l), I (stateE b m l), [])⟩
def namesL (bc : List Cv) : List ByteArray := cpuStr :: bc.map fun c => c.1
theorem namesL_any (bc : List Cv) (s : ByteArray) : (namesL bc).any (strEq s) = true ↔ strEq s cpuStr = true ∨ bc.any (nmB s) = true := by
  unfold namesL
  rw [List.any_cons, Bool.or_eq_true, List.any_map]
  refine or_congr Iff.rfl ?_
  rw [List.any_eq_true, List.any_eq_true]
  refine ⟨fun ⟨c, h1, h2⟩ => ⟨c, h1, strEq_iff.2 (strEq_iff.1 h2).symm⟩, fun ⟨c, h1, h2⟩ => ⟨c, h1, strEq_iff.2 (strEq_iff.1 h2).symm⟩⟩
theorem namesL_take {bc : List Cv} {k : Nat} (h : k < bc.length) : namesL (bc.take (k + 1)) = namesL (bc.take k) ++ [(bc.getD k (dflt ChipT)).1] := by
  unfold namesL
  rw [take_snoc2 (dflt ChipT) h, List.map_append]; rfl

end Go.Proofs.YtofgbclopbmlcaaGreat

/- mach.Check: what is wrong with a machine's state and inputs. -/
namespace Go.Proofs.YtofgbclopbmlcaaGreat
open Go.Fw
set_option linter.unusedVariables false
set_option linter.unusedSimpArgs false
set_option linter.constructorNameAsVariable false
set_option maxRecDepth 100000

theorem not_f {a : Bool} (h : (!a) = false) : a = true := by cases a <;> first | rfl | cases h
theorem is_chip {bc : List Cv} {x : Inp} (h : (!bc.any (inB x)) = false) : bc.any (nmB x.2.1) = true := not_f h
theorem no_chip {bc : List Cv} {x : Inp} (h : (!strEq x.2.1 cpuStr) = true) (h2 : (!bc.any (inB x)) = true) : ¬ (strEq x.2.1 cpuStr = true ∨ bc.any (nmB x.2.1) = true) := fun hh => by
  rcases hh with hh | hh
  · rw [hh] at h; cases h
  · have h3 : bc.any (inB x) = true := hh
    rw [h3] at h2; cases h2
set_option maxHeartbeats 4000000 in
theorem mCheck_ok : GoodF Tryz.prog 13 mcheckS.spec := by
  have hT := tab_ok (fs := [(53, bcheckS.spec), (49, mitS.spec)]) tree_ok
  have hP : SpecsOk Tryz.prog (tab tree [(53, bcheckS.spec), (49, mitS.spec)]) := specs_cons bCheck_ok (specs_cons mit_ok specs_nil)
  refine mcheckS.good (fn := Tryz.f13) hT hP Tryz.func13 (by kernel_rfl) rfl fun (b : Bd) (m : Mach) (l : List Inp) hq => ?_
  obtain ⟨hck, hln⟩ : stP b m l := hq _ rfl
  clear hq
  have hBE : stateE b m l = if boardE b ≠ 0 then boardE b else if m.2.2.1.length ≠ b.2.2.1.length then 3
    else if m.1 < 0 ∨ m.1 > 1099511627776 then 1 else if l.length > 500 then 2 else errL (inpE b.2.2.1 l) (List.range l.length) := rfl
  have hcl : b.2.2.1.length * 64 ≤ 140737488351232 := hck.1.1.1
  obtain ⟨bn, ⟨un, ui, ur, uq, um⟩, bc, bw⟩ := b
  obtain ⟨tm, ⟨r, op, at_, nmi⟩, ds, bd, ba, bdt⟩ := m
  have hcl : bc.length * 64 ≤ 140737488351232 := hcl
  have hBE : stateE (bn, (un, ui, ur, uq, um), bc, bw) (tm, (r, op, at_, nmi), ds, bd, ba, bdt) l = if boardE (bn, (un, ui, ur, uq, um), bc, bw) ≠ 0 then boardE (bn, (un, ui, ur, uq, um), bc, bw) else if ds.length ≠ bc.length then 3
    else if tm < 0 ∨ tm > 1099511627776 then 1 else if l.length > 500 then 2 else errL (inpE bc l) (List.range l.length) := hBE
  repeat' first
    | (refine Go.mk ?_; conv => whnf)
    | refine Need.go ?_ ?_
    | refine NilG.go (fun _ => ?_) (fun _ => ?_)
    | refine Br.dec (fun _ => ?_) (fun _ => ?_)
    | refine Br.go (fun _ => ?_) (fun _ => ?_)
    | refine draw_go hT hP mixed ?_
    | refine round_go hT hP ?_
  all_goals (try dsimp only [castL_eq] at *)
  · exact hck
  · rename_i g
    have g := nz_of (x := boardE (bn, (un, ui, ur, uq, um), bc, bw)) g
    refine .mk [] [] _ rfl rfl rfl rfl rfl rfl (imm_int ?_)
    rw [hBE, if_pos g]
  · rename_i g0 g
    have g0 := ze_of (x := boardE (bn, (un, ui, ur, uq, um), bc, bw)) g0
    have g := neN g
    refine .mk [] [] _ rfl rfl rfl rfl rfl rfl (imm_int ?_)
    rw [hBE, if_neg (fun h => h g0), if_pos g]
  · rename_i g0 g1 g2
    have g0 := ze_of (x := boardE (bn, (un, ui, ur, uq, um), bc, bw)) g0
    have g1 := eqN g1
    have g2 : tm < 0 := g2
    refine .mk [] [] _ rfl rfl rfl rfl rfl rfl (imm_int ?_)
    rw [hBE, if_neg (fun h => h g0), if_neg (fun h => h g1), if_pos (.inl g2)]
  · rename_i g0 g1 g2 g3
    have g0 := ze_of (x := boardE (bn, (un, ui, ur, uq, um), bc, bw)) g0
    have g1 := eqN g1
    have g3 : tm > 1099511627776 := g3
    refine .mk [] [] _ rfl rfl rfl rfl rfl rfl (imm_int ?_)
    rw [hBE, if_neg (fun h => h g0), if_neg (fun h => h g1), if_pos (.inr g3)]
  · rename_i g0 g1 g2 g3 g4
    have g0 := ze_of (x := boardE (bn, (un, ui, ur, uq, um), bc, bw)) g0
    have g1 := eqN g1
    have g2 : ¬ tm < 0 := g2
    have g3 : ¬ tm > 1099511627776 := g3
    have g4 : (l.length : Int) > 500 := g4
    refine .mk [] [] _ rfl rfl rfl rfl rfl rfl (imm_int ?_)
    rw [hBE, if_neg (fun h => h g0), if_neg (fun h => h g1), if_neg (by omega), if_pos (by omega)]
  rename_i g0 g1 g2 g3 g4
  have g0 := ze_of (x := boardE (bn, (un, ui, ur, uq, um), bc, bw)) g0
  have g1 := eqN g1
  have g2 : ¬ tm < 0 := g2
  have g3 : ¬ tm > 1099511627776 := g3
  have g4 : ¬ (l.length : Int) > 500 := g4
  rw [if_neg (fun h => h g0), if_neg (fun h => h g1), if_neg (by omega), if_neg (by omega)] at hBE
  refine up_go hT hP (A := Unit) l.length (fun i _ => St.mk [.dead, .dead, .cell (.ro InpT l), .cell (.ptr 0 0), .dead, .dead, .dead, .dead, .dead, .dead, .dead, .dead, .dead, .dead, .dead, .dead, .dead, .dead, .dead, .dead, .dead, .dead, .dead, .dead, .dead, .dead, .dead, .dead, .dead, .dead, .dead, .dead, .dead, .dead, .dead, .dead, .cell (.ro InpT l), I l.length, I i, .dead, .dead, .dead, .dead, .dead, .dead, .dead, .dead, .dead, .dead, .dead, .dead, .dead, .dead, .dead, .dead, .dead, .dead, .dead, .dead, .dead, .dead, .dead, .dead, .dead, .dead, .dead, .dead, .dead, .dead]
      [some (.var [.imm (.string bn), .imm (.string un), .ro InsT ui, .ro CycT ur, .ro CycT uq, .ro CycT um, .ro ChipT bc, .ro WireT bw])])
    (fun k _ => errL (inpE bc l) ((List.range l.length).drop k) = errL (inpE bc l) (List.range l.length)) () (Le.mk [] [0] rfl rfl ?_ ?_) rfl fun k _ hk hi => ?_
  · exact rfl
  · repeat' first | exact trivial | exact ⟨rfl, rfl⟩ | refine And.intro ?_ ?_
  have hs := fun h => rangeE_step (f := inpE bc l) (k := k) h hi
  have hp : 0 < k → (IntKind.i64.wrap ((k : Int) - 1)) = ((k - 1 : Nat) : Int) := fun h => by rw [w64 (by omega) (by omega)]; omega
  have hA : inpE bc l k = if 0 < k ∧ (l.getD k (dflt InpT)).1 < (l.getD (k - 1) (dflt InpT)).1 then 9
    else if strEq (l.getD k (dflt InpT)).2.1 cpuStr = true ∨ bc.any (nmB (l.getD k (dflt InpT)).2.1) = true then 0 else 4 := rfl
  clear g0 g1 g2 g3 hck
  repeat' first
    | (refine Go.mk ?_; conv => whnf)
    | refine Need.go ?_ ?_
    | refine NilG.go (fun _ => ?_) (fun _ => ?_)
    | refine Br.dec (fun _ => ?_) (fun _ => ?_)
    | refine Br.go (fun _ => ?_) (fun _ => ?_)
    | refine draw_go hT hP mixed ?_
    | refine round_go hT hP ?_
  all_goals (try dsimp only [castL_eq] at *)
  all_goals clear hT hP
  · rename_i g
    have g : (k : Int) < (l.length : Int) := by assumption
    show 0 ≤ (k : Int) ∧ (k : Int) < (l.length : Int)
    omega
  · rename_i g g2
    have g : (k : Int) < (l.length : Int) := by assumption
    have g2 : (k : Int) > 0 := by assumption
    show 0 ≤ IntKind.i64.wrap ((k : Int) - 1) ∧ IntKind.i64.wrap ((k : Int) - 1) < (l.length : Int)
    rw [hp (by omega)]; omega
  · rename_i g g2 g3
    have g : (k : Int) < (l.length : Int) := g
    have g2 : (k : Int) > 0 := g2
    have g3 : (l.getD k (dflt InpT)).1 < (l.getD (IntKind.i64.wrap ((k : Int) - 1)).toNat (dflt InpT)).1 := g3
    rw [hp (by omega)] at g3
    have g3 : (l.getD k (dflt InpT)).1 < (l.getD (k - 1) (dflt InpT)).1 := g3
    rw [if_pos ⟨by omega, g3⟩] at hA
    refine .mk [] [] _ rfl rfl rfl rfl rfl rfl (imm_int ?_)
    rw [hBE, ← (hs (by omega)).1 (by rw [hA]; decide), hA]
  · exact ⟨by omega, trivial⟩
  · rename_i g g2 g3 g4 g5
    have g : (k : Int) < (l.length : Int) := g
    have g3 : ¬ (l.getD k (dflt InpT)).1 < (l.getD (IntKind.i64.wrap ((k : Int) - 1)).toNat (dflt InpT)).1 := g3
    rw [hp (by omega)] at g3
    have g3 : ¬ (l.getD k (dflt InpT)).1 < (l.getD (k - 1) (dflt InpT)).1 := g3
    rw [if_neg (fun h => g3 h.2)] at hA
    have g4 : (!strEq (l.getD k (dflt InpT)).2.1 cpuStr) = true := g4
    have g5 : (!bc.any (inB (l.getD k (dflt InpT)))) = true := g5
    rw [if_neg (no_chip g4 g5)] at hA
    refine .mk [] [] _ rfl rfl rfl rfl rfl rfl (imm_int ?_)
    rw [hBE, ← (hs (by omega)).1 (by rw [hA]; decide), hA]
  · rename_i g g2 g3 g4 g5
    have g : (k : Int) < (l.length : Int) := g
    have g3 : ¬ (l.getD k (dflt InpT)).1 < (l.getD (IntKind.i64.wrap ((k : Int) - 1)).toNat (dflt InpT)).1 := g3
    rw [hp (by omega)] at g3
    have g3 : ¬ (l.getD k (dflt InpT)).1 < (l.getD (k - 1) (dflt InpT)).1 := g3
    have g5 : (!bc.any (inB (l.getD k (dflt InpT)))) = false := g5
    rw [if_neg (fun h => g3 h.2), if_pos (.inr (is_chip g5))] at hA
    apply Exists.intro
    apply Exists.intro ()
    refine And.intro (And.intro ?lt136 (And.intro ?ei136 ?inv136)) (Le.mk [] [0] rfl rfl ?hh136 ?ht136)
    case hh136 => exact rfl
    case ht136 => repeat' first | exact trivial | exact ⟨rfl, rfl⟩ | refine And.intro ?_ ?_
    case lt136 => omega
    case ei136 => exact up_i (by omega)
    exact (hs (by omega)).2 hA
  · rename_i g g2 g3 g4
    have g : (k : Int) < (l.length : Int) := g
    have g3 : ¬ (l.getD k (dflt InpT)).1 < (l.getD (IntKind.i64.wrap ((k : Int) - 1)).toNat (dflt InpT)).1 := g3
    rw [hp (by omega)] at g3
    have g3 : ¬ (l.getD k (dflt InpT)).1 < (l.getD (k - 1) (dflt InpT)).1 := g3
    have g4 : (!strEq (l.getD k (dflt InpT)).2.1 cpuStr) = false := g4
    rw [if_neg (fun h => g3 h.2), if_pos (.inl (not_f g4))] at hA
    apply Exists.intro
    apply Exists.intro ()
    refine And.intro (And.intro ?lt151 (And.intro ?ei151 ?inv151)) (Le.mk [] [0] rfl rfl ?hh151 ?ht151)
    case hh151 => exact rfl
    case ht151 => repeat' first | exact trivial | exact ⟨rfl, rfl⟩ | refine And.intro ?_ ?_
    case lt151 => omega
    case ei151 => exact up_i (by omega)
    exact (hs (by omega)).2 hA
  · exact ⟨by omega, trivial⟩
  · rename_i g g2 g4 g5
    have g : (k : Int) < (l.length : Int) := g
    have g2 : ¬ (k : Int) > 0 := g2
    rw [if_neg (fun h => by have := h.1; omega)] at hA
    have g4 : (!strEq (l.getD k (dflt InpT)).2.1 cpuStr) = true := g4
    have g5 : (!bc.any (inB (l.getD k (dflt InpT)))) = true := g5
    rw [if_neg (no_chip g4 g5)] at hA
    refine .mk [] [] _ rfl rfl rfl rfl rfl rfl (imm_int ?_)
    rw [hBE, ← (hs (by omega)).1 (by rw [hA]; decide), hA]
  · rename_i g g2 g4 g5
    have g : (k : Int) < (l.length : Int) := g
    have g2 : ¬ (k : Int) > 0 := g2
    have g5 : (!bc.any (inB (l.getD k (dflt InpT)))) = false := g5
    rw [if_neg (fun h => by have := h.1; omega), if_pos (.inr (is_chip g5))] at hA
    apply Exists.intro
    apply Exists.intro ()
    refine And.intro (And.intro ?lt174 (And.intro ?ei174 ?inv174)) (Le.mk [] [0] rfl rfl ?hh174 ?ht174)
    case hh174 => exact rfl
    case ht174 => repeat' first | exact trivial | exact ⟨rfl, rfl⟩ | refine And.intro ?_ ?_
    case lt174 => omega
    case ei174 => exact up_i (by omega)
    exact (hs (by omega)).2 hA
  · rename_i g g2 g4
    have g : (k : Int) < (l.length : Int) := g
    have g2 : ¬ (k : Int) > 0 := g2
    have g4 : (!strEq (l.getD k (dflt InpT)).2.1 cpuStr) = false := g4
    rw [if_neg (fun h => by have := h.1; omega), if_pos (.inl (not_f g4))] at hA
    apply Exists.intro
    apply Exists.intro ()
    refine And.intro (And.intro ?lt187 (And.intro ?ei187 ?inv187)) (Le.mk [] [0] rfl rfl ?hh187 ?ht187)
    case hh187 => exact rfl
    case ht187 => repeat' first | exact trivial | exact ⟨rfl, rfl⟩ | refine And.intro ?_ ?_
    case lt187 => omega
    case ei187 => exact up_i (by omega)
    exact (hs (by omega)).2 hA
  · rename_i g
    have g : ¬ (k : Int) < (l.length : Int) := g
    refine .mk [] [] _ rfl rfl rfl rfl rfl rfl (imm_int ?_)
    rw [hBE, rangeE_end (by omega) hi]

end Go.Proofs.YtofgbclopbmlcaaGreat

