/- Part 11 of the proof: BoardChk2 TabErr BoardErr StateE LnkHas StrHas MchRef. No statement is handed in here; conditions: none. -/
import Derived.Test.YtofgbclopbmlcaaGreatG10
import Derived.Test.YtofgbclopbmlcaaGreatG9
import Derived.Test.YtofgbclopbmlcaaGreatG7
import Derived.Test.YtofgbclopbmlcaaGreatG6
/- board.Check. -/
namespace Go.Proofs.YtofgbclopbmlcaaGreat
open Go.Fw
set_option linter.unusedVariables false
set_option linter.unusedSimpArgs false
set_option linter.constructorNameAsVariable false
set_option maxRecDepth 100000

def chkP (b : Bd) : Prop := bdP b ∧ ∀ w ∈ b.2.2.2, w.1.size ≤ 140737488351232
theorem chipsE_step {l : List Cv} {k : Nat} {e : Int} (hk : k < l.length) (hi : errL (fun k => chipAtE (l.take k) (l.getD k (dflt ChipT))) ((List.range l.length).drop k) = chipsE l) :
    (chipAtE (l.take k) (l.getD k (dflt ChipT)) ≠ 0 → chipAtE (l.take k) (l.getD k (dflt ChipT)) = chipsE l) ∧ (chipAtE (l.take k) (l.getD k (dflt ChipT)) = 0 → errL (fun k => chipAtE (l.take k) (l.getD k (dflt ChipT))) ((List.range l.length).drop (k + 1)) = chipsE l) := by
  have hr : k < (List.range l.length).length := by rw [List.length_range]; exact hk
  have e1 := range_get hk
  constructor
  · intro h
    rw [← hi, errL_no 0 hr (by rw [e1]; exact h), e1]
  · intro h
    rw [← hi, errL_ok 0 hr (by rw [e1]; exact h)]
theorem wiresE_step {b : Bd} {k : Nat} (hk : k < b.2.2.2.length) (hi : errL (wireAtE b) ((List.range b.2.2.2.length).drop k) = errL (wireAtE b) (List.range b.2.2.2.length)) :
    (wireAtE b k ≠ 0 → wireAtE b k = errL (wireAtE b) (List.range b.2.2.2.length)) ∧ (wireAtE b k = 0 → errL (wireAtE b) ((List.range b.2.2.2.length).drop (k + 1)) = errL (wireAtE b) (List.range b.2.2.2.length)) := by
  have hr : k < (List.range b.2.2.2.length).length := by rw [List.length_range]; exact hk
  have e1 := range_get hk
  constructor
  · intro h
    rw [← hi, errL_no 0 hr (by rw [e1]; exact h), e1]
  · intro h
    rw [← hi, errL_ok 0 hr (by rw [e1]; exact h)]
def bcheckS : PSpec := ⟨[gBd], fun (b, _) => (some (chkP b), I (boardE b), [])⟩
set_option maxHeartbeats 8000000 in
theorem bCheck_ok : GoodF Tryz.prog 53 bcheckS.spec := by
  have hT := tab_ok (fs := [(100, nameS.spec), (101, tcheckS.spec), (102, chipES.spec), (103, bwireS.spec), (57, wHasS.spec)]) tree_ok
  have hP : SpecsOk Tryz.prog (tab tree [(100, nameS.spec), (101, tcheckS.spec), (102, chipES.spec), (103, bwireS.spec), (57, wHasS.spec)]) := specs_cons tName_ok (specs_cons tcheck_ok (specs_cons cCheck_ok (specs_cons bwire_ok (specs_cons wHas_ok specs_nil))))
  refine bcheckS.good (fn := Tryz.f53) hT hP Tryz.func53 (by kernel_rfl) rfl fun (b : Bd) hq => ?_
  obtain ⟨⟨⟨hl1, hl2⟩, hcp⟩, hwp⟩ : chkP b := hq _ rfl
  clear hq
  obtain ⟨bn, ⟨un, ui, ur, uq, um⟩, bc, bw⟩ := b
  have hl1 : bc.length * 64 ≤ 140737488351232 := hl1
  have hl2 : bw.length * 32 ≤ 140737488351232 := hl2
  have hcp : ∀ c ∈ bc, cP c ∧ c.1.size ≤ 140737488351232 := hcp
  have hwp : ∀ w ∈ bw, w.1.size ≤ 140737488351232 := hwp
  obtain ⟨B, hB⟩ : ∃ B : Bd, B = (bn, (un, ui, ur, uq, um), bc, bw) := ⟨_, rfl⟩
  have hBE : boardE (bn, (un, ui, ur, uq, um), bc, bw) = if nameB (bytesOf bn) = false then 15 else if cpuE (un, ui, ur, uq, um) ≠ 0 then cpuE (un, ui, ur, uq, um) else if bc.length > 12 then 2 else if chipsE bc ≠ 0 then chipsE bc
    else if bw.length > 40 then 2 else errL (wireAtE (bn, (un, ui, ur, uq, um), bc, bw)) (List.range bw.length) := rfl
  repeat' first
    | (refine Go.mk ?_; conv => whnf)
    | refine Need.go ?_ ?_
    | refine NilG.go (fun _ => ?_) (fun _ => ?_)
    | refine Br.dec (fun _ => ?_) (fun _ => ?_)
    | refine Br.go (fun _ => ?_) (fun _ => ?_)
    | refine draw_go hT hP mixed ?_
    | refine round_go hT hP ?_
  all_goals (try dsimp only [castL_eq] at *)
  · rename_i g
    have g : nameB (bytesOf bn) = false := by simpa using g
    refine .mk [] [] _ rfl rfl rfl rfl rfl rfl (imm_int ?_)
    rw [hBE, if_pos g]
  · rename_i g g2
    have g : nameB (bytesOf bn) = true := by simpa using g
    have g2 := nz_of (x := cpuE (un, ui, ur, uq, um)) g2
    refine .mk [] [] _ rfl rfl rfl rfl rfl rfl (imm_int ?_)
    rw [hBE, if_neg (by rw [g]; decide), if_pos g2]
  · rename_i g g2 g3
    have g : nameB (bytesOf bn) = true := by simpa using g
    have g2 := ze_of (x := cpuE (un, ui, ur, uq, um)) g2
    have g3 : (bc.length : Int) > 12 := g3
    refine .mk [] [] _ rfl rfl rfl rfl rfl rfl (imm_int ?_)
    rw [hBE, if_neg (by rw [g]; decide), if_neg (fun h => h g2), if_pos (by omega)]
  rename_i g g2 g3
  have g : nameB (bytesOf bn) = true := by simpa using g
  have g2 := ze_of (x := cpuE (un, ui, ur, uq, um)) g2
  have g3 : ¬ (bc.length : Int) > 12 := g3
  rw [if_neg (by rw [g]; decide), if_neg (fun h => h g2), if_neg (by omega)] at hBE
  refine up_go hT hP (A := Unit) bc.length (fun i _ => St.mk [.dead, .cell (.ptr 0 0), .dead, .dead, .dead, .dead, .dead, .dead, .dead, .dead, .dead, .dead, .dead, .dead, .dead, .dead, .dead, .dead, .dead, .dead, .dead, .dead, .dead, .dead, .dead, .dead, .dead, .cell (.ro ChipT bc), I bc.length, I i, .dead, .dead, .dead, .dead, .dead, .dead, .dead, .dead, .dead, .dead, .dead, .dead, .dead, .dead, .dead, .dead, .dead, .dead, .dead, .dead, .dead, .dead, .dead, .dead, .dead, .dead, .dead, .dead, .dead, .dead, .dead, .dead, .dead, .dead, .dead, .dead, .dead, .dead, .dead, .dead, .dead, .dead, .dead, .dead, .dead, .dead, .dead, .dead, .dead, .dead, .dead, .dead, .dead, .dead, .dead, .dead, .dead, .dead, .dead, .dead, .dead, .dead, .dead, .dead, .dead, .dead, .dead, .dead, .dead, .dead]
      [some (.var [.imm (.string bn), .imm (.string un), .ro InsT ui, .ro CycT ur, .ro CycT uq, .ro CycT um, .ro ChipT bc, .ro WireT bw])])
    (fun k _ => errL (fun k => chipAtE (bc.take k) (bc.getD k (dflt ChipT))) ((List.range bc.length).drop k) = chipsE bc) () (Le.mk [] [0] rfl rfl ?_ ?_) rfl fun k _ hk hi => ?_
  · exact rfl
  · repeat' first | exact trivial | exact ⟨rfl, rfl⟩ | refine And.intro ?_ ?_
  have hcb : ∀ e : Int, chipsE bc = e → e ≠ 0 → e = boardE (bn, (un, ui, ur, uq, um), bc, bw) := fun e h1 h2 => by
    rw [hBE, if_pos (by rw [h1]; exact h2), h1]
  repeat' first
    | (refine Go.mk ?_; conv => whnf)
    | refine Need.go ?_ ?_
    | refine NilG.go (fun _ => ?_) (fun _ => ?_)
    | refine Br.dec (fun _ => ?_) (fun _ => ?_)
    | refine Br.go (fun _ => ?_) (fun _ => ?_)
    | refine draw_go hT hP mixed ?_
    | refine round_go hT hP ?_
  all_goals (try dsimp only [castL_eq] at *)
  · show 0 ≤ (k : Int) ∧ (k : Int) < (bc.length : Int)
    omega
  · rename_i g4
    have g4 : (k : Int) < (bc.length : Int) := g4
    exact (hcp _ (memD' (dflt ChipT) (show k < bc.length by omega))).1
  · rename_i g4 g5
    have g4 : (k : Int) < (bc.length : Int) := g4
    have g5 : (chipE (bc.getD k (dflt ChipT)) != 0) = true := g5
    have hs := (chipsE_step (e := 0) (show k < bc.length by omega) hi).1
    have e : chipAtE (bc.take k) (bc.getD k (dflt ChipT)) = chipE (bc.getD k (dflt ChipT)) := if_pos (nz_of g5)
    rw [e] at hs
    exact .mk [] [] _ rfl rfl rfl rfl rfl rfl (imm_int (hcb _ (hs (nz_of g5)).symm (nz_of g5)))
  · show 0 ≤ (k : Int) ∧ (k : Int) ≤ (bc.length : Int)
    omega
  · rename_i g4 g5
    have g4 : (k : Int) < (bc.length : Int) := g4
    have g5 : (chipE (bc.getD k (dflt ChipT)) != 0) = false := g5
    have hs := chipsE_step (e := 0) (show k < bc.length by omega) hi
    have e : chipAtE (bc.take k) (bc.getD k (dflt ChipT)) = errL (pairE (bc.getD k (dflt ChipT))) (bc.take k) := if_neg (fun h => h (ze_of g5))
    rw [e] at hs
    have hx : bc.getD (k : Int).toNat (dflt ChipT) = bc.getD k (dflt ChipT) := rfl
    have htl : (bc.take k).length = k := by rw [List.length_take]; omega
    have hts : ((bc.take (k : Int).toNat).drop 0) = bc.take k := rfl
    rw [hts, hx]
    generalize bc.getD k (dflt ChipT) = x at *
    obtain ⟨xn, xk, xb, xs, xd⟩ := x
    generalize bc.take k = pre at *
    refine up_go hT hP (A := Unit) pre.length (fun j _ => St.mk [.dead, .cell (.ptr 0 0), .dead, .dead, .dead, .cell (.ptr 1 0), .dead, .dead, .dead, .dead, .dead, .dead, .dead, .dead, .dead, .dead, .dead, .dead, .dead, .dead, .dead, .dead, .dead, .dead, .dead, .dead, .dead, .cell (.ro ChipT bc), I bc.length, I k, .dead, .dead, .dead, .dead, .dead, .dead, .dead, .dead, .dead, .dead, .dead, .dead, .cell (.ro ChipT pre), I pre.length, I j, .dead, .dead, .dead, .dead, .dead, .dead, .dead, .dead, .dead, .dead, .dead, .dead, .dead, .dead, .dead, .dead, .dead, .dead, .dead, .dead, .dead, .dead, .dead, .dead, .dead, .dead, .dead, .dead, .dead, .dead, .dead, .dead, .dead, .dead, .dead, .dead, .dead, .dead, .dead, .dead, .dead, .dead, .dead, .dead, .dead, .dead, .dead, .dead, .dead, .dead, .dead, .dead, .dead, .dead, .dead]
        [some (.var [.imm (.string bn), .imm (.string un), .ro InsT ui, .ro CycT ur, .ro CycT uq, .ro CycT um, .ro ChipT bc, .ro WireT bw]), some (.var [.imm (.string xn), iv .i64 xk, iv .i64 xb, iv .i64 xs, .ro (.int .u8) xd])])
      (fun j _ => errL (pairE (xn, xk, xb, xs, xd)) (pre.drop j) = errL (pairE (xn, xk, xb, xs, xd)) pre) () (Le.mk [] [0, 1] rfl rfl ?_ ?_) rfl fun j _ hj hi2 => ?_
    · exact rfl
    · repeat' first | exact trivial | exact ⟨rfl, rfl⟩ | refine And.intro ?_ ?_
    repeat' first
      | (refine Go.mk ?_; conv => whnf)
      | refine Need.go ?_ ?_
      | refine NilG.go (fun _ => ?_) (fun _ => ?_)
      | refine Br.dec (fun _ => ?_) (fun _ => ?_)
      | refine Br.go (fun _ => ?_) (fun _ => ?_)
      | refine draw_go hT hP mixed ?_
      | refine round_go hT hP ?_
    all_goals (try dsimp only [castL_eq] at *)
    all_goals clear hT hP
    all_goals (generalize hy : pre.getD (j : Int).toNat (dflt ChipT) = y at *; obtain ⟨yn, yk, yb, ys, yd⟩ := y)
    all_goals (replace hy : pre.getD j (dflt ChipT) = (yn, yk, yb, ys, yd) := hy)
    all_goals (have hok : pairE (xn, xk, xb, xs, xd) (yn, yk, yb, ys, yd) = 0 → (j : Int) < (pre.length : Int) → errL (pairE (xn, xk, xb, xs, xd)) (pre.drop (j + 1)) = errL (pairE (xn, xk, xb, xs, xd)) pre := fun h0 h1 => (errL_ok (f := pairE (xn, xk, xb, xs, xd)) (dflt ChipT) (show j < pre.length by omega) (by rw [hy, h0])).symm.trans hi2)
    · show 0 ≤ (j : Int) ∧ (j : Int) < (pre.length : Int)
      omega
    · rename_i g6 g7
      have g6 : (j : Int) < (pre.length : Int) := g6
      have g7 : strEq yn xn = true := g7
      have e5 : pairE (xn, xk, xb, xs, xd) (yn, yk, yb, ys, yd) = 5 := if_pos g7
      have e6 := errL_no (f := pairE (xn, xk, xb, xs, xd)) (dflt ChipT) (show j < pre.length by omega) (by rw [hy, e5]; decide)
      rw [hy, e5, hi2] at e6
      rw [e6] at hs
      exact .mk [] [] _ rfl rfl rfl rfl rfl rfl (imm_int (hcb _ (hs.1 (by decide)).symm (by decide)))
    · rename_i g6 g7 g8 g9
      have g6 : (j : Int) < (pre.length : Int) := g6
      have g7 : strEq yn xn = false := g7
      have e5 : pairE (xn, xk, xb, xs, xd) (yn, yk, yb, ys, yd) = 16 := by
        unfold pairE
        rw [if_neg (by rw [show strEq yn xn = false from g7]; decide), if_pos ⟨g8, g9⟩]
      have e6 := errL_no (f := pairE (xn, xk, xb, xs, xd)) (dflt ChipT) (show j < pre.length by omega) (by rw [hy, e5]; decide)
      rw [hy, e5, hi2] at e6
      rw [e6] at hs
      exact .mk [] [] _ rfl rfl rfl rfl rfl rfl (imm_int (hcb _ (hs.1 (by decide)).symm (by decide)))
    · rename_i g6 g7 g8 g9
      have g6 : (j : Int) < (pre.length : Int) := g6
      apply Exists.intro
      apply Exists.intro ()
      refine And.intro (And.intro ?lt157 (And.intro ?ei157 ?inv157)) (Le.mk [] [0, 1] rfl rfl ?hh157 ?ht157)
      case hh157 => exact rfl
      case ht157 => repeat' first | exact trivial | exact ⟨rfl, rfl⟩ | refine And.intro ?_ ?_
      case lt157 => omega
      case ei157 => exact up_i (by omega)
      refine hok ?_ g6
      unfold pairE
      rw [if_neg (by rw [show strEq yn xn = false from g7]; decide), if_neg (fun h => g9 h.2)]
    · rename_i g6 g7 g8
      have g6 : (j : Int) < (pre.length : Int) := g6
      apply Exists.intro
      apply Exists.intro ()
      refine And.intro (And.intro ?lt169 (And.intro ?ei169 ?inv169)) (Le.mk [] [0, 1] rfl rfl ?hh169 ?ht169)
      case hh169 => exact rfl
      case ht169 => repeat' first | exact trivial | exact ⟨rfl, rfl⟩ | refine And.intro ?_ ?_
      case lt169 => omega
      case ei169 => exact up_i (by omega)
      refine hok ?_ g6
      unfold pairE
      rw [if_neg (by rw [show strEq yn xn = false from g7]; decide), if_neg (fun h => g8 h.1)]
    · rename_i g6
      have g6 : ¬ (j : Int) < (pre.length : Int) := g6
      have e0 : errL (pairE (xn, xk, xb, xs, xd)) pre = 0 := by
        rw [← hi2, List.drop_of_length_le (by omega)]; rfl
      apply Exists.intro
      apply Exists.intro ()
      refine And.intro (And.intro ?lt183 (And.intro ?ei183 ?inv183)) (Le.mk [] [0] rfl rfl ?hh183 ?ht183)
      case hh183 => exact rfl
      case ht183 => repeat' first | exact trivial | exact ⟨rfl, rfl⟩ | refine And.intro ?_ ?_
      case lt183 => omega
      case ei183 => exact up_i (by omega)
      exact hs.2 e0
  · rename_i g4 g5
    have g4 : ¬ (k : Int) < (bc.length : Int) := g4
    have g5 : (bw.length : Int) > 40 := g5
    have h0 : chipsE bc = 0 := by
      rw [← hi, List.drop_of_length_le (by rw [List.length_range]; omega)]; rfl
    refine .mk [] [] _ rfl rfl rfl rfl rfl rfl (imm_int ?_)
    rw [hBE, if_neg (fun h => h h0), if_pos (by omega)]
  rename_i g4 g5
  have g4 : ¬ (k : Int) < (bc.length : Int) := g4
  have g5 : ¬ (bw.length : Int) > 40 := g5
  have h0 : chipsE bc = 0 := by
    rw [← hi, List.drop_of_length_le (by rw [List.length_range]; omega)]; rfl
  rw [if_neg (fun h => h h0), if_neg (by omega)] at hBE
  clear hi hcb
  refine up_go hT hP (A := Unit) bw.length (fun i _ => St.mk [.dead, .cell (.ptr 0 0), .dead, .dead, .dead, .dead, .dead, .dead, .dead, .dead, .dead, .dead, .dead, .dead, .dead, .dead, .dead, .dead, .dead, .dead, .dead, .dead, .dead, .dead, .dead, .dead, .dead, .dead, .dead, .dead, .dead, .dead, .dead, .dead, .dead, .dead, .dead, .dead, .dead, .dead, .dead, .dead, .dead, .dead, .dead, .dead, .dead, .dead, .dead, .dead, .dead, .dead, .dead, .dead, .dead, .dead, .dead, .dead, .dead, .dead, .dead, .dead, .dead, .dead, .dead, .dead, .dead, .dead, .dead, .dead, .dead, .dead, .dead, .dead, .dead, .dead, .dead, .dead, .dead, .dead, .cell (.ro WireT bw), I bw.length, I i, .dead, .dead, .dead, .dead, .dead, .dead, .dead, .dead, .dead, .dead, .dead, .dead, .dead, .dead, .dead, .dead, .dead]
      [some (.var [.imm (.string bn), .imm (.string un), .ro InsT ui, .ro CycT ur, .ro CycT uq, .ro CycT um, .ro ChipT bc, .ro WireT bw])])
    (fun k _ => errL (wireAtE (bn, (un, ui, ur, uq, um), bc, bw)) ((List.range bw.length).drop k) = errL (wireAtE (bn, (un, ui, ur, uq, um), bc, bw)) (List.range bw.length)) () (Le.mk [] [0] rfl rfl ?_ ?_) rfl fun q _ hq hj => ?_
  · exact rfl
  · repeat' first | exact trivial | exact ⟨rfl, rfl⟩ | refine And.intro ?_ ?_
  repeat' first
    | (refine Go.mk ?_; conv => whnf)
    | refine Need.go ?_ ?_
    | refine NilG.go (fun _ => ?_) (fun _ => ?_)
    | refine Br.dec (fun _ => ?_) (fun _ => ?_)
    | refine Br.go (fun _ => ?_) (fun _ => ?_)
    | refine draw_go hT hP mixed ?_
    | refine round_go hT hP ?_
  all_goals (try dsimp only [castL_eq] at *)
  all_goals clear hT hP
  all_goals (generalize hw : bw.getD (q : Int).toNat (dflt WireT) = w at *; obtain ⟨wf, wt⟩ := w)
  all_goals (replace hw : bw.getD q (dflt WireT) = (wf, wt) := hw)
  all_goals (have hA : wireAtE (bn, (un, ui, ur, uq, um), bc, bw) q = if wireE (bn, (un, ui, ur, uq, um), bc, bw) (bw.getD q (dflt WireT)) ≠ 0 then wireE (bn, (un, ui, ur, uq, um), bc, bw) (bw.getD q (dflt WireT)) else if (bw.take q).any (sameW (bw.getD q (dflt WireT))) = true then 5 else 0 := rfl)
  all_goals (rw [hw] at hA)
  all_goals (have hs := fun h => wiresE_step (b := (bn, (un, ui, ur, uq, um), bc, bw)) (k := q) h hj)
  all_goals (rw [hA] at hs)
  · show 0 ≤ (q : Int) ∧ (q : Int) < (bw.length : Int)
    omega
  · rename_i g6
    have g6 : (q : Int) < (bw.length : Int) := g6
    have := hwp _ (memD' (dflt WireT) (show q < bw.length by omega))
    rw [hw] at this
    exact ⟨by omega, this⟩
  · rename_i g6 g7
    have g6 : (q : Int) < (bw.length : Int) := g6
    have g7 := nz_of (x := wireE (bn, (un, ui, ur, uq, um), bc, bw) (wf, wt)) g7
    have hs := hs (by show q < bw.length; omega)
    rw [if_pos g7] at hs
    refine .mk [] [] _ rfl rfl rfl rfl rfl rfl (imm_int ?_)
    rw [hBE, ← hs.1 g7]
  · show 0 ≤ (q : Int) ∧ (q : Int) ≤ (bw.length : Int)
    omega
  · show ((bw.take (q : Int).toNat).drop 0).length ≤ 4611686018427387904
    rw [List.drop_zero, List.length_take]; omega
  · rename_i g6 g7 g8
    have g6 : (q : Int) < (bw.length : Int) := g6
    have g7 := ze_of (x := wireE (bn, (un, ui, ur, uq, um), bc, bw) (wf, wt)) g7
    have g8 : (bw.take q).any (sameW (wf, wt)) = true := g8
    have hs := hs (by show q < bw.length; omega)
    rw [if_neg (fun h => h g7), if_pos g8] at hs
    refine .mk [] [] _ rfl rfl rfl rfl rfl rfl (imm_int ?_)
    rw [hBE, ← hs.1 (by decide)]
  · rename_i g6 g7 g8
    have g6 : (q : Int) < (bw.length : Int) := g6
    have g7 := ze_of (x := wireE (bn, (un, ui, ur, uq, um), bc, bw) (wf, wt)) g7
    have g8 : (bw.take q).any (sameW (wf, wt)) = false := g8
    have hs := hs (by show q < bw.length; omega)
    rw [if_neg (fun h => h g7), if_neg (by rw [g8]; decide)] at hs
    apply Exists.intro
    apply Exists.intro ()
    refine And.intro (And.intro ?lt258 (And.intro ?ei258 ?inv258)) (Le.mk [] [0] rfl rfl ?hh258 ?ht258)
    case hh258 => exact rfl
    case ht258 => repeat' first | exact trivial | exact ⟨rfl, rfl⟩ | refine And.intro ?_ ?_
    case lt258 => omega
    case ei258 => exact up_i (by omega)
    exact hs.2 rfl
  · rename_i g6
    have g6 : ¬ (q : Int) < (bw.length : Int) := g6
    refine .mk [] [] _ rfl rfl rfl rfl rfl rfl (imm_int ?_)
    rw [hBE, ← hj, List.drop_of_length_le (by rw [List.length_range]; omega)]; rfl

end Go.Proofs.YtofgbclopbmlcaaGreat

/- bakeref1.CpuErr: what the reference says is wrong with a processor. -/
namespace Go.Proofs.YtofgbclopbmlcaaGreat
open Go.Fw
set_option linter.unusedVariables false
set_option linter.unusedSimpArgs false
set_option linter.constructorNameAsVariable false
set_option maxRecDepth 100000

abbrev KeyT : Ty := .pair .str (.int .i64)
theorem mapGet_put {l : List (Den KeyT × Den .bool)} {k k' : Den KeyT} {v : Den .bool} : mapGet (mapPut l k v) k' = if denEq KeyT k' k = true then some v else mapGet l k' := by
  have hs : ∀ {a b : Den KeyT}, denEq KeyT a b = true ↔ a = b := fun {a b} => ⟨fun h => denEq_eq rfl h, fun h => by rw [h]; exact denEq_self rfl⟩
  induction l with
  | nil =>
    show (match denEq KeyT k' k with | true => some v | false => none) = _
    cases denEq KeyT k' k <;> rfl
  | cons p r ih =>
    obtain ⟨pk, pv⟩ := p
    by_cases h : denEq KeyT k pk = true
    · have e : mapPut ((pk, pv) :: r) k v = (k, v) :: r := by
        show (match denEq KeyT k pk with | true => (k, v) :: r | false => (pk, pv) :: mapPut r k v) = _
        rw [h]
      rw [e]
      have hk := hs.1 h
      subst hk
      show (match denEq KeyT k' k with | true => some v | false => mapGet r k') = if denEq KeyT k' k = true then some v else (match denEq KeyT k' k with | true => some pv | false => mapGet r k')
      cases denEq KeyT k' k <;> rfl
    · have h0 : denEq KeyT k pk = false := by simpa using h
      have e : mapPut ((pk, pv) :: r) k v = (pk, pv) :: mapPut r k v := by
        show (match denEq KeyT k pk with | true => (k, v) :: r | false => (pk, pv) :: mapPut r k v) = _
        rw [h0]
      rw [e]
      show (match denEq KeyT k' pk with | true => some pv | false => mapGet (mapPut r k v) k') = if denEq KeyT k' k = true then some v else (match denEq KeyT k' pk with | true => some pv | false => mapGet r k')
      rw [ih]
      by_cases h1 : denEq KeyT k' pk = true
      · have h2 : ¬ denEq KeyT k' k = true := fun h3 => h (by rw [← hs.1 h3]; exact h1)
        rw [h1]
        show some pv = if denEq KeyT k' k = true then some v else some pv
        rw [if_neg h2]
      · have h1' : denEq KeyT k' pk = false := by simpa using h1
        rw [h1']

theorem opNe (x : Int) : (x != land .i64 x 255) = decide (x < 0 ∨ x > 255) := by
  have e2 : lowF x 8 = land .i64 x 255 := by unfold lowF; rw [show IntKind.i64.wrap (shl .i64 1 (widthF 8) - 1) = 255 by decide]
  have e : land .i64 x 255 = x % 256 := by rw [← e2, lowF_mod x 8 (by decide) (by decide)]; rfl
  rw [e]
  rw [Bool.eq_iff_iff]
  simp
  omega
/-- the keys that a map holds are those of the instructions -/
def keysOf (M : List (Den KeyT × Den .bool)) (l : List Ins) : Prop := ∀ x : Ins, getOr (mapGet M (x.2.1, x.2.2.1)) false = l.any (keyB x)
theorem key_iff {x y : Ins} : keyB x y = true ↔ (x.2.1, x.2.2.1) = (y.2.1, y.2.2.1) := by
  unfold keyB
  have hs : strEq y.2.1 x.2.1 = true ↔ y.2.1 = x.2.1 := Lib.bytes_beq_iff _ _
  rw [Prod.mk.injEq]
  cases h : strEq y.2.1 x.2.1 with
  | true =>
    show decide (y.2.2.1 = x.2.2.1) = true ↔ _
    rw [decide_eq_true_eq]
    have := hs.1 h
    exact ⟨fun h2 => ⟨this.symm, h2.symm⟩, fun h2 => h2.2.symm⟩
  | false =>
    show false = true ↔ _
    exact ⟨fun h2 => (by cases h2), fun h2 => (by have := hs.2 h2.1.symm; rw [h] at this; cases this)⟩
theorem keys_put {M : List (Den KeyT × Den .bool)} {l : List Ins} {k : Nat} {y : Ins} (h : keysOf M (l.take k)) (hk : k < l.length) (e : l.getD k (dflt InsT) = y) : keysOf (mapPut M (y.2.1, y.2.2.1) true) (l.take (k + 1)) := by
  intro x
  rw [mapGet_put, take_snoc2 (dflt InsT) hk, e, List.any_append]
  have hd : denEq KeyT (x.2.1, x.2.2.1) (y.2.1, y.2.2.1) = true ↔ (x.2.1, x.2.2.1) = (y.2.1, y.2.2.1) := ⟨fun h => denEq_eq rfl h, fun h => by rw [h]; exact denEq_self rfl⟩
  by_cases hc : keyB x y = true
  · rw [if_pos (hd.2 (key_iff.1 hc))]
    show true = _
    simp [hc]
  · rw [if_neg (fun h2 => hc (key_iff.2 (hd.1 h2))), h x]
    have hc' : keyB x y = false := by simpa using hc
    simp [hc']
set_option maxHeartbeats 4000000 in
theorem cpuErr_eval : GoodF Tryz.prog 62 tcheckS.spec := by
  have hT := tab_ok (fs := [(61, nameS.spec), (116, tsizeS.spec), (117, tcyclesS.spec)]) tree_ok
  have hP : SpecsOk Tryz.prog (tab tree [(61, nameS.spec), (116, tsizeS.spec), (117, tcyclesS.spec)]) := specs_cons rNamed_ok (specs_cons rOperand_ok (specs_cons rCycles_ok specs_nil))
  refine tcheckS.good (fn := Tryz.f62) hT hP Tryz.func62 (by kernel_rfl) rfl fun (c : Cpu) _ => ?_
  obtain ⟨cn, ci, cr, cq, cm⟩ := c
  repeat' first
    | (refine Go.mk ?_; conv => whnf)
    | refine Need.go ?_ ?_
    | refine NilG.go (fun _ => ?_) (fun _ => ?_)
    | refine Br.dec (fun _ => ?_) (fun _ => ?_)
    | refine Br.go (fun _ => ?_) (fun _ => ?_)
    | refine draw_go hT hP mixed ?_
    | refine round_go hT hP ?_
  all_goals (try dsimp only [castL_eq] at *)
  · rename_i g
    have g : nameB (bytesOf cn) = false := by simpa using g
    refine .mk [] [] _ rfl rfl rfl rfl rfl rfl (imm_int ?_)
    exact (if_pos g : cpuE (cn, ci, cr, cq, cm) = 15).symm
  · rename_i g g2
    have g : nameB (bytesOf cn) = true := by simpa using g
    have g2 : (ci.length : Int) > 256 := g2
    refine .mk [] [] _ rfl rfl rfl rfl rfl rfl (imm_int ?_)
    show 2 = cpuE (cn, ci, cr, cq, cm)
    unfold cpuE
    rw [if_neg (by rw [g]; decide), if_pos (by show ci.length > 256; omega)]
  rename_i g1 g2
  have g1 : nameB (bytesOf cn) = true := by simpa using g1
  have hn : ci.length ≤ 256 := by have g2 : ¬ (ci.length : Int) > 256 := g2; omega
  clear g2
  have hC : ∀ e : Int, e ≠ 0 → inssE ci = e → e = cpuE (cn, ci, cr, cq, cm) := fun e h0 h1 => by
    unfold cpuE
    rw [if_neg (by rw [g1]; decide), if_neg (by show ¬ ci.length > 256; omega), if_pos (by rw [h1]; exact h0)]; exact h1.symm
  have hT2 : inssE ci = 0 → tailE (cn, ci, cr, cq, cm) = cpuE (cn, ci, cr, cq, cm) := fun h1 => by
    unfold cpuE
    rw [if_neg (by rw [g1]; decide), if_neg (by show ¬ ci.length > 256; omega), if_neg (by rw [h1]; decide)]
  refine up_go hT hP (A := Int × List (Den KeyT × Den .bool)) ci.length (fun i (a, M) => St.mk [.dead, .cell (.ptr 0 0), .dead, I a, .cell (.map 1), .dead, .dead, .dead, .dead, .dead, .dead, .dead, .dead, .dead, .dead, .dead, .dead, .dead, .dead, .dead, .dead, .dead, .dead, .cell (.ro InsT ci), I ci.length, I i, .dead, .dead, .dead, .dead, .dead, .dead, .dead, .dead, .dead, .dead, .dead, .dead, .dead, .dead, .dead, .dead, .dead, .dead, .dead, .dead, .dead, .dead, .dead, .dead, .dead, .dead, .dead, .dead, .dead, .dead, .dead, .dead, .dead, .dead, .dead, .dead, .dead, .dead, .dead, .dead, .dead, .dead, .dead, .dead, .dead, .dead, .dead, .dead, .dead, .dead, .dead, .dead, .dead, .dead, .dead, .dead, .dead, .dead, .dead, .dead, .dead, .dead, .dead, .dead, .dead, .dead, .dead, .dead, .dead, .dead, .dead, .dead, .dead, .dead, .dead, .dead, .dead, .dead, .dead, .dead, .dead, .dead, .dead, .dead, .dead, .dead, .dead]
      [some (.var [.imm (.string cn), .ro InsT ci, .ro CycT cr, .ro CycT cq, .ro CycT cm]), some (.mp true KeyT .bool M)])
    (fun k (a, M) => errL (insE ci) ((List.range ci.length).drop k) = inssE ci ∧ keysOf M (ci.take k) ∧ (0 < k → a = (ci.getD (k - 1) (dflt InsT)).1)) (-1, []) (Le.mk [] [0, 1] rfl rfl ?_ ?_) ⟨rfl, fun _ => rfl, fun h => absurd h (Nat.lt_irrefl _)⟩ fun k (a, M) hk hi => ?_
  · exact rfl
  · repeat' first | exact trivial | exact ⟨rfl, rfl⟩ | refine And.intro ?_ ?_
  obtain ⟨hi, hM, ha⟩ := hi
  have hE : ∀ e : Int, e ≠ 0 → insE ci k = e → k < ci.length → e = cpuE (cn, ci, cr, cq, cm) := fun e h0 h1 hk => by
    refine hC e h0 ?_
    have hr : k < (List.range ci.length).length := by rw [List.length_range]; exact hk
    have e1 := range_get hk
    rw [← hi, errL_no 0 hr (by rw [e1, h1]; exact h0), e1, h1]
  have hN : insE ci k = 0 → k < ci.length → errL (insE ci) ((List.range ci.length).drop (k + 1)) = inssE ci := fun h1 hk => by
    have hr : k < (List.range ci.length).length := by rw [List.length_range]; exact hk
    rw [← hi, errL_ok 0 hr (by rw [range_get hk, h1])]
  repeat' first
    | (refine Go.mk ?_; conv => whnf)
    | refine Need.go ?_ ?_
    | refine NilG.go (fun _ => ?_) (fun _ => ?_)
    | refine Br.dec (fun _ => ?_) (fun _ => ?_)
    | refine Br.go (fun _ => ?_) (fun _ => ?_)
    | refine draw_go hT hP mixed ?_
    | refine round_go hT hP ?_
  all_goals (try dsimp only [castL_eq] at *)
  all_goals (generalize hx : ci.getD (k : Int).toNat (dflt InsT) = x at *; obtain ⟨xo, xs, xm, xc⟩ := x)
  all_goals (have hx' : ci.getD k (dflt InsT) = (xo, xs, xm, xc) := hx)
  all_goals (have hI : insE ci k = insC (ci.take k) k (ci.getD (k - 1) (dflt InsT)).1 (xo, xs, xm, xc) := by unfold insE; rw [hx'])
  all_goals (rw [hI] at hE hN)
  all_goals (generalize (ci.getD (k - 1) (dflt InsT)).1 = pv at *)
  all_goals (try dsimp only at *)
  all_goals (have hL : getOr (mapGet M (xs, xm)) (dflt .bool) = (ci.take k).any (keyB (xo, xs, xm, xc)) := hM (xo, xs, xm, xc))
  all_goals (try simp only [hL] at *)
  all_goals (try simp only [opNe, decide_eq_false_iff_not, decide_eq_true_eq] at *)
  · show 0 ≤ (k : Int) ∧ (k : Int) < (ci.length : Int)
    omega
  all_goals first
    | exact .mk [] [] _ rfl rfl rfl rfl rfl rfl (imm_int (hE _ (nz_of (x := cycsE xc) (by assumption)) (insC_cyc (fun h => by omega) (fun h => by omega) (fun h => by omega) (by assumption) (by assumption) (by assumption) (by assumption)) (by omega)))
    | (refine .mk [] [] _ rfl rfl rfl rfl rfl rfl (imm_int (hE _ ?_ ?_ (by omega)))
       · decide
       · clear hT hP hE hN hC hT2 hi hx hx' hI hM
         simp [insC] at *
         try first
           | omega
           | (simp_all; done)
           | (simp_all; omega))
    | skip
  · have hk2 : k < ci.length := by omega
    have hx5 : xc.length ≤ 1000 := by
      have h0 : (cycsE xc != 0) = false := by assumption
      have h1 := ze_of h0
      unfold cycsE at h1
      split at h1
      · cases h1
      · omega
    have hno : ¬ (xo < 0 ∨ xo > 255) := by assumption
    refine up_go hT hP (A := Int) xc.length (fun j n => St.mk [.dead, .cell (.ptr 0 0), .dead, I xo, .cell (.map 1), .dead, .cell (.ptr 2 0), .dead, .dead, I n, .dead, .dead, .dead, .dead, .dead, .dead, .dead, .dead, .dead, .dead, .dead, .dead, .dead, .cell (.ro InsT ci), I ci.length, I k, .dead, .dead, .dead, .dead, .dead, .dead, .dead, .dead, .dead, .dead, .dead, .dead, .dead, .dead, .dead, .dead, .dead, .dead, .dead, .dead, .dead, .dead, .dead, .dead, .dead, .dead, .dead, .dead, .dead, .dead, .dead, .dead, .dead, .dead, .dead, .dead, .dead, .dead, .dead, .dead, .dead, .dead, .dead, .dead, .dead, .dead, .dead, .dead, .dead, .dead, .cell (.ro CycT xc), I xc.length, I j, .dead, .dead, .dead, .dead, .dead, .dead, .dead, .dead, .dead, .dead, .dead, .dead, .dead, .dead, .dead, .dead, .dead, .dead, .dead, .dead, .dead, .dead, .dead, .dead, .dead, .dead, .dead, .dead, .dead, .dead, .dead, .dead, .dead, .dead]
        [some (.var [.imm (.string cn), .ro InsT ci, .ro CycT cr, .ro CycT cq, .ro CycT cm]), some (.mp true KeyT .bool (mapPut M (xs, xm) true)), some (.var [.imm (.int .i64 xo), .imm (.string xs), .imm (.int .i64 xm), .ro CycT xc])])
      (fun j n => n = (((xc.take j).filter isOp).length : Nat)) 0 (Le.mk [] [0, 1, 2] rfl rfl ?_ ?_) rfl fun j n hj hi2 => ?_
    · exact rfl
    · repeat' first | exact trivial | exact ⟨rfl, rfl⟩ | refine And.intro ?_ ?_
    repeat' first
      | (refine Go.mk ?_; conv => whnf)
      | refine Need.go ?_ ?_
      | refine NilG.go (fun _ => ?_) (fun _ => ?_)
      | refine Br.dec (fun _ => ?_) (fun _ => ?_)
      | refine Br.go (fun _ => ?_) (fun _ => ?_)
      | refine draw_go hT hP mixed ?_
      | refine round_go hT hP ?_
    all_goals clear hT hP
    all_goals have hf := List.length_filter_le isOp (xc.take j)
    all_goals rw [List.length_take] at hf
    · show 0 ≤ (j : Int) ∧ (j : Int) < (xc.length : Int)
      omega
    · rename_i g g1 g2
      have g : (j : Int) < (xc.length : Int) := g
      have h2 : isOp (xc.getD j (dflt CycT)) = true := by
        have g1 : (xc.getD j (dflt CycT)).1 = 1 := g1
        have g2 : (xc.getD j (dflt CycT)).2.1 = 0 := g2
        unfold isOp; rw [decide_eq_true g1, decide_eq_true g2]; rfl
      apply Exists.intro
      apply Exists.intro _
      refine And.intro (And.intro ?lt191 (And.intro ?ei191 ?inv191)) (Le.mk [] [0, 1, 2] rfl rfl ?hh191 ?ht191)
      case hh191 => exact rfl
      case ht191 => repeat' first | exact trivial | exact ⟨rfl, rfl⟩ | refine And.intro ?_ ?_
      case lt191 => omega
      case ei191 => exact up_i (by omega)
      have e : IntKind.i64.wrap (n + 1) = n + 1 := w64 (by omega) (by omega)
      have e2 := oper_yes (show j < xc.length by omega) h2
      rw [e]; omega
    · rename_i g g1 g2
      have g : (j : Int) < (xc.length : Int) := g
      have h2 : isOp (xc.getD j (dflt CycT)) = false := by
        have g1 : (xc.getD j (dflt CycT)).1 = 1 := g1
        have g2 : ¬ (xc.getD j (dflt CycT)).2.1 = 0 := g2
        unfold isOp; rw [decide_eq_true g1, decide_eq_false g2]; rfl
      apply Exists.intro
      apply Exists.intro _
      refine And.intro (And.intro ?lt207 (And.intro ?ei207 ?inv207)) (Le.mk [] [0, 1, 2] rfl rfl ?hh207 ?ht207)
      case hh207 => exact rfl
      case ht207 => repeat' first | exact trivial | exact ⟨rfl, rfl⟩ | refine And.intro ?_ ?_
      case lt207 => omega
      case ei207 => exact up_i (by omega)
      have e2 := oper_no (show j < xc.length by omega) h2
      omega
    · rename_i g g1
      have g : (j : Int) < (xc.length : Int) := g
      have h2 : isOp (xc.getD j (dflt CycT)) = false := by
        have g1 : ¬ (xc.getD j (dflt CycT)).1 = 1 := g1
        unfold isOp; rw [decide_eq_false g1]; rfl
      apply Exists.intro
      apply Exists.intro _
      refine And.intro (And.intro ?lt221 (And.intro ?ei221 ?inv221)) (Le.mk [] [0, 1, 2] rfl rfl ?hh221 ?ht221)
      case hh221 => exact rfl
      case ht221 => repeat' first | exact trivial | exact ⟨rfl, rfl⟩ | refine And.intro ?_ ?_
      case lt221 => omega
      case ei221 => exact up_i (by omega)
      have e2 := oper_no (show j < xc.length by omega) h2
      omega
    · rename_i g g1
      have e : n = operI xc := by rw [hi2, List.take_of_length_le (by omega)]; rfl
      have g1 : (n != sizeI xm) = true := g1
      rw [e] at g1
      exact .mk [] [] _ rfl rfl rfl rfl rfl rfl (imm_int (hE 3 (by decide) (insC_op (fun h => by omega) (fun h => by omega) (fun h => by omega) (by assumption) (by assumption) (by assumption) (by assumption) g1) hk2))
    · rename_i g g1
      have e : n = operI xc := by rw [hi2, List.take_of_length_le (by omega)]; rfl
      have g1 : (n != sizeI xm) = false := g1
      rw [e] at g1
      apply Exists.intro
      apply Exists.intro (xo, mapPut M (xs, xm) true)
      refine And.intro (And.intro ?lt239 (And.intro ?ei239 ?inv239)) (Le.mk [] [0, 1] rfl rfl ?hh239 ?ht239)
      case hh239 => exact rfl
      case ht239 => repeat' first | exact trivial | exact ⟨rfl, rfl⟩ | refine And.intro ?_ ?_
      case lt239 => omega
      case ei239 => exact up_i (by omega)
      exact ⟨hN (insC_ok (fun h => by omega) (fun h => by omega) (fun h => by omega) (by assumption) (by assumption) (by assumption) (by assumption) g1) hk2, keys_put hM hk2 hx', fun _ => by rw [Nat.add_sub_cancel, hx']⟩
  · have hk2 : k < ci.length := by omega
    have hx5 : xc.length ≤ 1000 := by
      have h0 : (cycsE xc != 0) = false := by assumption
      have h1 := ze_of h0
      unfold cycsE at h1
      split at h1
      · cases h1
      · omega
    have hno : ¬ (xo < 0 ∨ xo > 255) := by assumption
    refine up_go hT hP (A := Int) xc.length (fun j n => St.mk [.dead, .cell (.ptr 0 0), .dead, I xo, .cell (.map 1), .dead, .cell (.ptr 2 0), .dead, .dead, I n, .dead, .dead, .dead, .dead, .dead, .dead, .dead, .dead, .dead, .dead, .dead, .dead, .dead, .cell (.ro InsT ci), I ci.length, I k, .dead, .dead, .dead, .dead, .dead, .dead, .dead, .dead, .dead, .dead, .dead, .dead, .dead, .dead, .dead, .dead, .dead, .dead, .dead, .dead, .dead, .dead, .dead, .dead, .dead, .dead, .dead, .dead, .dead, .dead, .dead, .dead, .dead, .dead, .dead, .dead, .dead, .dead, .dead, .dead, .dead, .dead, .dead, .dead, .dead, .dead, .dead, .dead, .dead, .dead, .cell (.ro CycT xc), I xc.length, I j, .dead, .dead, .dead, .dead, .dead, .dead, .dead, .dead, .dead, .dead, .dead, .dead, .dead, .dead, .dead, .dead, .dead, .dead, .dead, .dead, .dead, .dead, .dead, .dead, .dead, .dead, .dead, .dead, .dead, .dead, .dead, .dead, .dead, .dead]
        [some (.var [.imm (.string cn), .ro InsT ci, .ro CycT cr, .ro CycT cq, .ro CycT cm]), some (.mp true KeyT .bool (mapPut M (xs, xm) true)), some (.var [.imm (.int .i64 xo), .imm (.string xs), .imm (.int .i64 xm), .ro CycT xc])])
      (fun j n => n = (((xc.take j).filter isOp).length : Nat)) 0 (Le.mk [] [0, 1, 2] rfl rfl ?_ ?_) rfl fun j n hj hi2 => ?_
    · exact rfl
    · repeat' first | exact trivial | exact ⟨rfl, rfl⟩ | refine And.intro ?_ ?_
    repeat' first
      | (refine Go.mk ?_; conv => whnf)
      | refine Need.go ?_ ?_
      | refine NilG.go (fun _ => ?_) (fun _ => ?_)
      | refine Br.dec (fun _ => ?_) (fun _ => ?_)
      | refine Br.go (fun _ => ?_) (fun _ => ?_)
      | refine draw_go hT hP mixed ?_
      | refine round_go hT hP ?_
    all_goals clear hT hP
    all_goals have hf := List.length_filter_le isOp (xc.take j)
    all_goals rw [List.length_take] at hf
    · show 0 ≤ (j : Int) ∧ (j : Int) < (xc.length : Int)
      omega
    · rename_i g g1 g2
      have g : (j : Int) < (xc.length : Int) := g
      have h2 : isOp (xc.getD j (dflt CycT)) = true := by
        have g1 : (xc.getD j (dflt CycT)).1 = 1 := g1
        have g2 : (xc.getD j (dflt CycT)).2.1 = 0 := g2
        unfold isOp; rw [decide_eq_true g1, decide_eq_true g2]; rfl
      apply Exists.intro
      apply Exists.intro _
      refine And.intro (And.intro ?lt280 (And.intro ?ei280 ?inv280)) (Le.mk [] [0, 1, 2] rfl rfl ?hh280 ?ht280)
      case hh280 => exact rfl
      case ht280 => repeat' first | exact trivial | exact ⟨rfl, rfl⟩ | refine And.intro ?_ ?_
      case lt280 => omega
      case ei280 => exact up_i (by omega)
      have e : IntKind.i64.wrap (n + 1) = n + 1 := w64 (by omega) (by omega)
      have e2 := oper_yes (show j < xc.length by omega) h2
      rw [e]; omega
    · rename_i g g1 g2
      have g : (j : Int) < (xc.length : Int) := g
      have h2 : isOp (xc.getD j (dflt CycT)) = false := by
        have g1 : (xc.getD j (dflt CycT)).1 = 1 := g1
        have g2 : ¬ (xc.getD j (dflt CycT)).2.1 = 0 := g2
        unfold isOp; rw [decide_eq_true g1, decide_eq_false g2]; rfl
      apply Exists.intro
      apply Exists.intro _
      refine And.intro (And.intro ?lt296 (And.intro ?ei296 ?inv296)) (Le.mk [] [0, 1, 2] rfl rfl ?hh296 ?ht296)
      case hh296 => exact rfl
      case ht296 => repeat' first | exact trivial | exact ⟨rfl, rfl⟩ | refine And.intro ?_ ?_
      case lt296 => omega
      case ei296 => exact up_i (by omega)
      have e2 := oper_no (show j < xc.length by omega) h2
      omega
    · rename_i g g1
      have g : (j : Int) < (xc.length : Int) := g
      have h2 : isOp (xc.getD j (dflt CycT)) = false := by
        have g1 : ¬ (xc.getD j (dflt CycT)).1 = 1 := g1
        unfold isOp; rw [decide_eq_false g1]; rfl
      apply Exists.intro
      apply Exists.intro _
      refine And.intro (And.intro ?lt310 (And.intro ?ei310 ?inv310)) (Le.mk [] [0, 1, 2] rfl rfl ?hh310 ?ht310)
      case hh310 => exact rfl
      case ht310 => repeat' first | exact trivial | exact ⟨rfl, rfl⟩ | refine And.intro ?_ ?_
      case lt310 => omega
      case ei310 => exact up_i (by omega)
      have e2 := oper_no (show j < xc.length by omega) h2
      omega
    · rename_i g g1
      have e : n = operI xc := by rw [hi2, List.take_of_length_le (by omega)]; rfl
      have g1 : (n != sizeI xm) = true := g1
      rw [e] at g1
      exact .mk [] [] _ rfl rfl rfl rfl rfl rfl (imm_int (hE 3 (by decide) (insC_op (fun h => by omega) (fun h => by omega) (fun h => by omega) (by assumption) (by assumption) (by assumption) (by assumption) g1) hk2))
    · rename_i g g1
      have e : n = operI xc := by rw [hi2, List.take_of_length_le (by omega)]; rfl
      have g1 : (n != sizeI xm) = false := g1
      rw [e] at g1
      apply Exists.intro
      apply Exists.intro (xo, mapPut M (xs, xm) true)
      refine And.intro (And.intro ?lt328 (And.intro ?ei328 ?inv328)) (Le.mk [] [0, 1] rfl rfl ?hh328 ?ht328)
      case hh328 => exact rfl
      case ht328 => repeat' first | exact trivial | exact ⟨rfl, rfl⟩ | refine And.intro ?_ ?_
      case lt328 => omega
      case ei328 => exact up_i (by omega)
      exact ⟨hN (insC_ok (fun h => by omega) (fun h => by omega) (fun h => by omega) (by assumption) (by assumption) (by assumption) (by assumption) g1) hk2, keys_put hM hk2 hx', fun _ => by rw [Nat.add_sub_cancel, hx']⟩
  · skip
    have hQ := hT2 (by rw [← hi, List.drop_of_length_le (by rw [List.length_range]; omega)]; rfl)
    have gr : cycsE cr = 0 := by assumption
    have gq : cycsE cq = 0 := by assumption
    refine .mk [] [] _ rfl rfl rfl rfl rfl rfl (imm_int ?_)
    show cycsE cm = cpuE (cn, ci, cr, cq, cm)
    rw [← hQ]
    refine (((if_pos gr : tailE (cn, ci, cr, cq, cm) = errL cycsE [cq, cm]).trans (if_pos gq : errL cycsE [cq, cm] = errL cycsE [cm])).trans ?_).symm
    by_cases h : cycsE cm = 0
    · rw [h]; exact (if_pos h : errL cycsE [cm] = errL cycsE [])
    · exact (if_neg h : errL cycsE [cm] = cycsE cm)
  · skip
    have hQ := hT2 (by rw [← hi, List.drop_of_length_le (by rw [List.length_range]; omega)]; rfl)
    have gr : cycsE cr = 0 := by assumption
    have gq : ¬ cycsE cq = 0 := by assumption
    refine .mk [] [] _ rfl rfl rfl rfl rfl rfl (imm_int ?_)
    show cycsE cq = cpuE (cn, ci, cr, cq, cm)
    rw [← hQ]
    exact ((if_pos gr : tailE (cn, ci, cr, cq, cm) = errL cycsE [cq, cm]).trans (if_neg gq : errL cycsE [cq, cm] = cycsE cq)).symm
  · exact absurd (by assumption : cycsE cr = 0) (by assumption)
  · skip
    have hQ := hT2 (by rw [← hi, List.drop_of_length_le (by rw [List.length_range]; omega)]; rfl)
    have gr : ¬ cycsE cr = 0 := by assumption
    refine .mk [] [] _ rfl rfl rfl rfl rfl rfl (imm_int ?_)
    show cycsE cr = cpuE (cn, ci, cr, cq, cm)
    rw [← hQ]
    exact (if_neg gr : tailE (cn, ci, cr, cq, cm) = cycsE cr).symm

end Go.Proofs.YtofgbclopbmlcaaGreat

/- bakeref1.BoardErr: what the reference says is wrong with a board. -/
namespace Go.Proofs.YtofgbclopbmlcaaGreat
open Go.Fw
set_option linter.unusedVariables false
set_option linter.unusedSimpArgs false
set_option linter.constructorNameAsVariable false
set_option maxRecDepth 100000

set_option maxHeartbeats 8000000 in
theorem rBoardErr_ok : GoodF Tryz.prog 18 bcheckS.spec := by
  have hT := tab_ok (fs := [(61, nameS.spec), (62, tcheckS.spec), (63, chipES.spec), (64, idxbS.spec), (56, asksS.spec)]) tree_ok
  have hP : SpecsOk Tryz.prog (tab tree [(61, nameS.spec), (62, tcheckS.spec), (63, chipES.spec), (64, idxbS.spec), (56, asksS.spec)]) := specs_cons rNamed_ok (specs_cons cpuErr_eval (specs_cons rChipErr_ok (specs_cons sIndexByte_ok (specs_cons rInterrupts_ok specs_nil))))
  refine bcheckS.good (fn := Tryz.f18) hT hP Tryz.func18 (by kernel_rfl) rfl fun (b : Bd) hq => ?_
  obtain ⟨⟨⟨hl1, hl2⟩, hcp⟩, hwp⟩ : chkP b := hq _ rfl
  clear hq
  obtain ⟨bn, ⟨un, ui, ur, uq, um⟩, bc, bw⟩ := b
  have hl1 : bc.length * 64 ≤ 140737488351232 := hl1
  have hl2 : bw.length * 32 ≤ 140737488351232 := hl2
  have hcp : ∀ c ∈ bc, cP c ∧ c.1.size ≤ 140737488351232 := hcp
  have hwp : ∀ w ∈ bw, w.1.size ≤ 140737488351232 := hwp
  obtain ⟨B, hB⟩ : ∃ B : Bd, B = (bn, (un, ui, ur, uq, um), bc, bw) := ⟨_, rfl⟩
  have hBE : boardE (bn, (un, ui, ur, uq, um), bc, bw) = if nameB (bytesOf bn) = false then 15 else if cpuE (un, ui, ur, uq, um) ≠ 0 then cpuE (un, ui, ur, uq, um) else if bc.length > 12 then 2 else if chipsE bc ≠ 0 then chipsE bc
    else if bw.length > 40 then 2 else errL (wireAtE (bn, (un, ui, ur, uq, um), bc, bw)) (List.range bw.length) := rfl
  repeat' first
    | (refine Go.mk ?_; conv => whnf)
    | refine Need.go ?_ ?_
    | refine NilG.go (fun _ => ?_) (fun _ => ?_)
    | refine Br.dec (fun _ => ?_) (fun _ => ?_)
    | refine Br.go (fun _ => ?_) (fun _ => ?_)
    | refine draw_go hT hP mixed ?_
    | refine round_go hT hP ?_
  all_goals (try dsimp only [castL_eq] at *)
  · rename_i g
    have g : nameB (bytesOf bn) = false := by simpa using g
    refine .mk [] [] _ rfl rfl rfl rfl rfl rfl (imm_int ?_)
    rw [hBE, if_pos g]
  · rename_i g g2
    have g : nameB (bytesOf bn) = true := by simpa using g
    have g2 := nz_of (x := cpuE (un, ui, ur, uq, um)) g2
    refine .mk [] [] _ rfl rfl rfl rfl rfl rfl (imm_int ?_)
    rw [hBE, if_neg (by rw [g]; decide), if_pos g2]
  · rename_i g g2 g3
    have g : nameB (bytesOf bn) = true := by simpa using g
    have g2 := ze_of (x := cpuE (un, ui, ur, uq, um)) g2
    have g3 : (bc.length : Int) > 12 := g3
    refine .mk [] [] _ rfl rfl rfl rfl rfl rfl (imm_int ?_)
    rw [hBE, if_neg (by rw [g]; decide), if_neg (fun h => h g2), if_pos (by omega)]
  rename_i g g2 g3
  have g : nameB (bytesOf bn) = true := by simpa using g
  have g2 := ze_of (x := cpuE (un, ui, ur, uq, um)) g2
  have g3 : ¬ (bc.length : Int) > 12 := g3
  rw [if_neg (by rw [g]; decide), if_neg (fun h => h g2), if_neg (by omega)] at hBE
  refine up_go hT hP (A := Unit) bc.length (fun i _ => St.mk [.dead, .cell (.ptr 0 0), .dead, .dead, .dead, .dead, .dead, .dead, .dead, .dead, .dead, .dead, .dead, .dead, .dead, .dead, .dead, .dead, .dead, .dead, .dead, .dead, .dead, .dead, .dead, .dead, .dead, .dead, .dead, .dead, .dead, .dead, .cell (.ro ChipT bc), I bc.length, I i, .dead, .dead, .dead, .dead, .dead, .dead, .dead, .dead, .dead, .dead, .dead, .dead, .dead, .dead, .dead, .dead, .dead, .dead, .dead, .dead, .dead, .dead, .dead, .dead, .dead, .dead, .dead, .dead, .dead, .dead, .dead, .dead, .dead, .dead, .dead, .dead, .dead, .dead, .dead, .dead, .dead, .dead, .dead, .dead, .dead, .dead, .dead, .dead, .dead, .dead, .dead, .dead, .dead, .dead, .dead, .dead, .dead, .dead, .dead, .dead, .dead, .dead, .dead, .dead, .dead, .dead, .dead, .dead, .dead, .dead, .dead, .dead, .dead, .dead, .dead, .dead, .dead, .dead, .dead, .dead, .dead, .dead, .dead, .dead, .dead, .dead, .dead, .dead, .dead, .dead, .dead, .dead, .dead, .dead, .dead, .dead, .dead, .dead, .dead, .dead, .dead, .dead, .dead, .dead]
      [some (.var [.imm (.string bn), .imm (.string un), .ro InsT ui, .ro CycT ur, .ro CycT uq, .ro CycT um, .ro ChipT bc, .ro WireT bw])])
    (fun k _ => errL (fun k => chipAtE (bc.take k) (bc.getD k (dflt ChipT))) ((List.range bc.length).drop k) = chipsE bc ∧ ∀ y ∈ bc.take k, chipE y = 0) () (Le.mk [] [0] rfl rfl ?_ ?_) ⟨rfl, fun y hy => by simp at hy⟩ fun k _ hk ⟨hi, hbef⟩ => ?_
  · exact rfl
  · repeat' first | exact trivial | exact ⟨rfl, rfl⟩ | refine And.intro ?_ ?_
  have hcb : ∀ e : Int, chipsE bc = e → e ≠ 0 → e = boardE (bn, (un, ui, ur, uq, um), bc, bw) := fun e h1 h2 => by
    rw [hBE, if_pos (by rw [h1]; exact h2), h1]
  repeat' first
    | (refine Go.mk ?_; conv => whnf)
    | refine Need.go ?_ ?_
    | refine NilG.go (fun _ => ?_) (fun _ => ?_)
    | refine Br.dec (fun _ => ?_) (fun _ => ?_)
    | refine Br.go (fun _ => ?_) (fun _ => ?_)
    | refine draw_go hT hP mixed ?_
    | refine round_go hT hP ?_
  all_goals (try dsimp only [castL_eq] at *)
  · show 0 ≤ (k : Int) ∧ (k : Int) < (bc.length : Int)
    omega
  · rename_i g4
    have g4 : (k : Int) < (bc.length : Int) := g4
    exact (hcp _ (memD' (dflt ChipT) (show k < bc.length by omega))).1
  · rename_i g4 g5
    have g4 : (k : Int) < (bc.length : Int) := g4
    have g5 : (chipE (bc.getD k (dflt ChipT)) != 0) = true := g5
    have hs := (chipsE_step (e := 0) (show k < bc.length by omega) hi).1
    have e : chipAtE (bc.take k) (bc.getD k (dflt ChipT)) = chipE (bc.getD k (dflt ChipT)) := if_pos (nz_of g5)
    rw [e] at hs
    exact .mk [] [] _ rfl rfl rfl rfl rfl rfl (imm_int (hcb _ (hs (nz_of g5)).symm (nz_of g5)))
  · show 0 ≤ (k : Int) ∧ (k : Int) ≤ (bc.length : Int)
    omega
  · rename_i g4 g5
    have g4 : (k : Int) < (bc.length : Int) := g4
    have g5 : (chipE (bc.getD k (dflt ChipT)) != 0) = false := g5
    have hs := chipsE_step (e := 0) (show k < bc.length by omega) hi
    have e : chipAtE (bc.take k) (bc.getD k (dflt ChipT)) = errL (pairE (bc.getD k (dflt ChipT))) (bc.take k) := if_neg (fun h => h (ze_of g5))
    rw [e] at hs
    have hx : bc.getD (k : Int).toNat (dflt ChipT) = bc.getD k (dflt ChipT) := rfl
    have hbef' : ∀ y ∈ bc.take (k + 1), chipE y = 0 := fun y hy => by
      rw [take_snoc2 (dflt ChipT) (show k < bc.length by omega)] at hy
      rcases List.mem_append.1 hy with hy | hy
      · exact hbef y hy
      · rw [List.mem_singleton.1 hy]; exact ze_of g5
    have htl : (bc.take k).length = k := by rw [List.length_take]; omega
    have hts : ((bc.take (k : Int).toNat).drop 0) = bc.take k := rfl
    rw [hts, hx]
    have hpre : ∀ y ∈ bc.take k, chipE y = 0 := hbef
    generalize bc.getD k (dflt ChipT) = x at *
    obtain ⟨xn, xk, xb, xs, xd⟩ := x
    generalize bc.take k = pre at *
    refine up_go hT hP (A := Unit) pre.length (fun j _ => St.mk [.dead, .cell (.ptr 0 0), .dead, .dead, .dead, .cell (.ptr 1 0), .dead, .dead, .dead, .dead, .dead, .dead, .dead, .dead, .dead, .dead, .dead, .dead, .dead, .dead, .dead, .dead, .dead, .dead, .dead, .dead, .dead, .dead, .dead, .dead, .dead, .dead, .cell (.ro ChipT bc), I bc.length, I k, .dead, .dead, .dead, .dead, .dead, .dead, .dead, .dead, .dead, .dead, .dead, .dead, .cell (.ro ChipT pre), I pre.length, I j, .dead, .dead, .dead, .dead, .dead, .dead, .dead, .dead, .dead, .dead, .dead, .dead, .dead, .dead, .dead, .dead, .dead, .dead, .dead, .dead, .dead, .dead, .dead, .dead, .dead, .dead, .dead, .dead, .dead, .dead, .dead, .dead, .dead, .dead, .dead, .dead, .dead, .dead, .dead, .dead, .dead, .dead, .dead, .dead, .dead, .dead, .dead, .dead, .dead, .dead, .dead, .dead, .dead, .dead, .dead, .dead, .dead, .dead, .dead, .dead, .dead, .dead, .dead, .dead, .dead, .dead, .dead, .dead, .dead, .dead, .dead, .dead, .dead, .dead, .dead, .dead, .dead, .dead, .dead, .dead, .dead, .dead, .dead, .dead, .dead, .dead, .dead, .dead, .dead]
        [some (.var [.imm (.string bn), .imm (.string un), .ro InsT ui, .ro CycT ur, .ro CycT uq, .ro CycT um, .ro ChipT bc, .ro WireT bw]), some (.var [.imm (.string xn), iv .i64 xk, iv .i64 xb, iv .i64 xs, .ro (.int .u8) xd])])
      (fun j _ => errL (pairE (xn, xk, xb, xs, xd)) (pre.drop j) = errL (pairE (xn, xk, xb, xs, xd)) pre) () (Le.mk [] [0, 1] rfl rfl ?_ ?_) rfl fun j _ hj hi2 => ?_
    · exact rfl
    · repeat' first | exact trivial | exact ⟨rfl, rfl⟩ | refine And.intro ?_ ?_
    repeat' first
      | (refine Go.mk ?_; conv => whnf)
      | refine Need.go ?_ ?_
      | refine NilG.go (fun _ => ?_) (fun _ => ?_)
      | refine Br.dec (fun _ => ?_) (fun _ => ?_)
      | refine Br.go (fun _ => ?_) (fun _ => ?_)
      | refine draw_go hT hP mixed ?_
      | refine round_go hT hP ?_
    all_goals (try dsimp only [castL_eq] at *)
    all_goals clear hT hP
    all_goals (generalize hy : pre.getD (j : Int).toNat (dflt ChipT) = y at *; obtain ⟨yn, yk, yb, ys, yd⟩ := y)
    all_goals (replace hy : pre.getD j (dflt ChipT) = (yn, yk, yb, ys, yd) := hy)
    all_goals (have hok : pairE (xn, xk, xb, xs, xd) (yn, yk, yb, ys, yd) = 0 → (j : Int) < (pre.length : Int) → errL (pairE (xn, xk, xb, xs, xd)) (pre.drop (j + 1)) = errL (pairE (xn, xk, xb, xs, xd)) pre := fun h0 h1 => (errL_ok (f := pairE (xn, xk, xb, xs, xd)) (dflt ChipT) (show j < pre.length by omega) (by rw [hy, h0])).symm.trans hi2)
    · show 0 ≤ (j : Int) ∧ (j : Int) < (pre.length : Int)
      omega
    · rename_i g6 g7
      have g6 : (j : Int) < (pre.length : Int) := g6
      have g7 : strEq xn yn = true := g7
      have g7 : strEq yn xn = true := strEq_iff.2 (strEq_iff.1 g7).symm
      have e5 : pairE (xn, xk, xb, xs, xd) (yn, yk, yb, ys, yd) = 5 := if_pos g7
      have e6 := errL_no (f := pairE (xn, xk, xb, xs, xd)) (dflt ChipT) (show j < pre.length by omega) (by rw [hy, e5]; decide)
      rw [hy, e5, hi2] at e6
      rw [e6] at hs
      exact .mk [] [] _ rfl rfl rfl rfl rfl rfl (imm_int (hcb _ (hs.1 (by decide)).symm (by decide)))
    · rename_i g6 g7 g8
      have g6 : (j : Int) < (pre.length : Int) := g6
      have g7 : strEq xn yn = false := g7
      have g7' : ¬ strEq yn xn = true := fun h => by rw [strEq_iff.2 (strEq_iff.1 h).symm] at g7; cases g7
      have hyE : chipE (yn, yk, yb, ys, yd) = 0 := by rw [← hy]; exact hpre _ (memD' (dflt ChipT) (show j < pre.length by omega))
      have g8 := (clash_iff (c := (xn, xk, xb, xs, xd)) (d := (yn, yk, yb, ys, yd)) (ze_of g5) hyE).1 g8
      have e5 : pairE (xn, xk, xb, xs, xd) (yn, yk, yb, ys, yd) = 16 := by
        unfold pairE
        rw [if_neg g7', if_pos g8]
      have e6 := errL_no (f := pairE (xn, xk, xb, xs, xd)) (dflt ChipT) (show j < pre.length by omega) (by rw [hy, e5]; decide)
      rw [hy, e5, hi2] at e6
      rw [e6] at hs
      exact .mk [] [] _ rfl rfl rfl rfl rfl rfl (imm_int (hcb _ (hs.1 (by decide)).symm (by decide)))
    · rename_i g6 g7 g8
      have g6 : (j : Int) < (pre.length : Int) := g6
      have g7 : strEq xn yn = false := g7
      have g7' : ¬ strEq yn xn = true := fun h => by rw [strEq_iff.2 (strEq_iff.1 h).symm] at g7; cases g7
      have hyE : chipE (yn, yk, yb, ys, yd) = 0 := by rw [← hy]; exact hpre _ (memD' (dflt ChipT) (show j < pre.length by omega))
      have g8 := fun h => g8 ((clash_iff (c := (xn, xk, xb, xs, xd)) (d := (yn, yk, yb, ys, yd)) (ze_of g5) hyE).2 h)
      apply Exists.intro
      apply Exists.intro ()
      refine And.intro (And.intro ?lt152 (And.intro ?ei152 ?inv152)) (Le.mk [] [0, 1] rfl rfl ?hh152 ?ht152)
      case hh152 => exact rfl
      case ht152 => repeat' first | exact trivial | exact ⟨rfl, rfl⟩ | refine And.intro ?_ ?_
      case lt152 => omega
      case ei152 => exact up_i (by omega)
      refine hok ?_ g6
      unfold pairE
      rw [if_neg g7', if_neg g8]
    · rename_i g6
      have g6 : ¬ (j : Int) < (pre.length : Int) := g6
      have e0 : errL (pairE (xn, xk, xb, xs, xd)) pre = 0 := by
        rw [← hi2, List.drop_of_length_le (by omega)]; rfl
      apply Exists.intro
      apply Exists.intro ()
      refine And.intro (And.intro ?lt166 (And.intro ?ei166 ?inv166)) (Le.mk [] [0] rfl rfl ?hh166 ?ht166)
      case hh166 => exact rfl
      case ht166 => repeat' first | exact trivial | exact ⟨rfl, rfl⟩ | refine And.intro ?_ ?_
      case lt166 => omega
      case ei166 => exact up_i (by omega)
      exact ⟨hs.2 e0, hbef'⟩
  · rename_i g4 g5
    have g4 : ¬ (k : Int) < (bc.length : Int) := g4
    have g5 : (bw.length : Int) > 40 := g5
    have h0 : chipsE bc = 0 := by
      rw [← hi, List.drop_of_length_le (by rw [List.length_range]; omega)]; rfl
    refine .mk [] [] _ rfl rfl rfl rfl rfl rfl (imm_int ?_)
    rw [hBE, if_neg (fun h => h h0), if_pos (by omega)]
  rename_i g4 g5
  have g4 : ¬ (k : Int) < (bc.length : Int) := g4
  have g5 : ¬ (bw.length : Int) > 40 := g5
  have h0 : chipsE bc = 0 := by
    rw [← hi, List.drop_of_length_le (by rw [List.length_range]; omega)]; rfl
  rw [if_neg (fun h => h h0), if_neg (by omega)] at hBE
  clear hi hcb
  refine up_go hT hP (A := List (Den WireT × Den .bool)) bw.length (fun i M => St.mk [.dead, .cell (.ptr 0 0), .dead, .dead, .dead, .dead, .dead, .dead, .dead, .cell (.map 1), .dead, .dead, .dead, .dead, .dead, .dead, .dead, .dead, .dead, .dead, .dead, .dead, .dead, .dead, .dead, .dead, .dead, .dead, .dead, .dead, .dead, .dead, .dead, .dead, .dead, .dead, .dead, .dead, .dead, .dead, .dead, .dead, .dead, .dead, .dead, .dead, .dead, .dead, .dead, .dead, .dead, .dead, .dead, .dead, .dead, .dead, .dead, .dead, .dead, .dead, .dead, .dead, .dead, .dead, .dead, .dead, .dead, .dead, .dead, .dead, .dead, .dead, .dead, .dead, .dead, .dead, .dead, .dead, .dead, .dead, .dead, .dead, .dead, .cell (.ro WireT bw), I bw.length, I i, .dead, .dead, .dead, .dead, .dead, .dead, .dead, .dead, .dead, .dead, .dead, .dead, .dead, .dead, .dead, .dead, .dead, .dead, .dead, .dead, .dead, .dead, .dead, .dead, .dead, .dead, .dead, .dead, .dead, .dead, .dead, .dead, .dead, .dead, .dead, .dead, .dead, .dead, .dead, .dead, .dead, .dead, .dead, .dead, .dead, .dead, .dead, .dead, .dead, .dead, .dead, .dead, .dead]
      [some (.var [.imm (.string bn), .imm (.string un), .ro InsT ui, .ro CycT ur, .ro CycT uq, .ro CycT um, .ro ChipT bc, .ro WireT bw]), some (.mp true WireT .bool M)])
    (fun k M => errL (wireAtE (bn, (un, ui, ur, uq, um), bc, bw)) ((List.range bw.length).drop k) = errL (wireAtE (bn, (un, ui, ur, uq, um), bc, bw)) (List.range bw.length) ∧ wKeys M (bw.take k)) [] (Le.mk [] [0, 1] rfl rfl ?_ ?_) ⟨rfl, fun _ => rfl⟩ fun q M hq ⟨hj, hM⟩ => ?_
  · exact rfl
  · repeat' first | exact trivial | exact ⟨rfl, rfl⟩ | refine And.intro ?_ ?_
  have hA : wireAtE (bn, (un, ui, ur, uq, um), bc, bw) q = if wireE (bn, (un, ui, ur, uq, um), bc, bw) (bw.getD q (dflt WireT)) ≠ 0 then wireE (bn, (un, ui, ur, uq, um), bc, bw) (bw.getD q (dflt WireT)) else if (bw.take q).any (sameW (bw.getD q (dflt WireT))) = true then 5 else 0 := rfl
  have hs := fun h => wiresE_step (b := (bn, (un, ui, ur, uq, um), bc, bw)) (k := q) h hj
  rw [hA] at hs
  have hsz := fun h : q < bw.length => hwp _ (memD' (dflt WireT) h)
  repeat' first
    | (refine Go.mk ?_; conv => whnf)
    | refine Need.go ?_ ?_
    | refine NilG.go (fun _ => ?_) (fun _ => ?_)
    | refine Br.dec (fun _ => ?_) (fun _ => ?_)
    | refine Br.go (fun _ => ?_) (fun _ => ?_)
    | refine draw_go hT hP mixed ?_
    | refine round_go hT hP ?_
  all_goals (try dsimp only [castL_eq] at *)
  all_goals (generalize hw : bw.getD (q : Int).toNat (dflt WireT) = w at *; obtain ⟨wf, wt⟩ := w)
  all_goals (replace hw : bw.getD q (dflt WireT) = (wf, wt) := hw)
  all_goals (rw [hw] at hs hsz)
  all_goals (have hWE : wireE (bn, (un, ui, ur, uq, um), bc, bw) (wf, wt) = if fstI (nmB (cutB wf)) bc < 0 then 4 else if strEq (cutA wf) irqP = false ∨ askK (bc.getD (fstI (nmB (cutB wf)) bc).toNat (dflt ChipT)).2.1 = false then 8 else if strEq wt cpuIrq = false then 20 else 0 := rfl)
  · show 0 ≤ (q : Int) ∧ (q : Int) < (bw.length : Int)
    omega
  · rename_i g6 g7
    have g7 : dotI wf ≥ 0 := g7
    have := dotI_in g7
    show 0 ≤ dotI wf ∧ dotI wf ≤ (wf.size : Int)
    omega
  · rename_i g6 g7
    have g6 : (q : Int) < (bw.length : Int) := g6
    have hs := hs (by show q < bw.length; omega)
    have hsz : wf.size ≤ 140737488351232 := hsz (by omega)
    have g7 : dotI wf ≥ 0 := g7
    have hnm : cutB wf = (wf.extract 0 (dotI wf).toNat) := if_pos g7
    have hns : ((wf.extract 0 (dotI wf).toNat)).size ≤ 140737488351232 := by rw [ByteArray.size_extract]; omega
    refine up_go hT hP (A := Int) bc.length (fun j kd => St.mk [.dead, .cell (.ptr 0 0), .dead, .dead, .dead, .dead, .dead, .dead, .dead, .cell (.map 1), .dead, .cell (.ptr 2 0), .cell (.imm (.string (wf.extract 0 (dotI wf).toNat))), .dead, I kd, .dead, .dead, .dead, .dead, .dead, .dead, .dead, .dead, .dead, .dead, .dead, .dead, .dead, .dead, .dead, .dead, .dead, .dead, .dead, .dead, .dead, .dead, .dead, .dead, .dead, .dead, .dead, .dead, .dead, .dead, .dead, .dead, .dead, .dead, .dead, .dead, .dead, .dead, .dead, .dead, .dead, .dead, .dead, .dead, .dead, .dead, .dead, .dead, .dead, .dead, .dead, .dead, .dead, .dead, .dead, .dead, .dead, .dead, .dead, .dead, .dead, .dead, .dead, .dead, .dead, .dead, .dead, .dead, .cell (.ro WireT bw), I bw.length, I q, .dead, .dead, .dead, .dead, .dead, .dead, .dead, .dead, .dead, .dead, .dead, .dead, .dead, .dead, .dead, .cell (.ro ChipT bc), I bc.length, I j, .dead, .dead, .dead, .dead, .dead, .dead, .dead, .dead, .dead, .dead, .dead, .dead, .dead, .dead, .dead, .dead, .dead, .dead, .dead, .dead, .dead, .dead, .dead, .dead, .dead, .dead, .dead, .dead, .dead, .dead, .dead, .dead, .dead, .dead, .dead]
        [some (.var [.imm (.string bn), .imm (.string un), .ro InsT ui, .ro CycT ur, .ro CycT uq, .ro CycT um, .ro ChipT bc, .ro WireT bw]), some (.mp true WireT .bool M), some (.var [.imm (.string wf), .imm (.string wt)])])
      (fun j kd => kd = kindL (wf.extract 0 (dotI wf).toNat) (bc.take j)) (-1) (Le.mk [] [0, 1, 2] rfl rfl ?_ ?_) rfl fun j kd hj3 hkd => ?_
    · exact rfl
    · repeat' first | exact trivial | exact ⟨rfl, rfl⟩ | refine And.intro ?_ ?_
    have hk2 : j = bc.length → kd = kindL (wf.extract 0 (dotI wf).toNat) bc := fun e => by rw [hkd, e, List.take_length]
    repeat' first
      | (refine Go.mk ?_; conv => whnf)
      | refine Need.go ?_ ?_
      | refine NilG.go (fun _ => ?_) (fun _ => ?_)
      | refine Br.dec (fun _ => ?_) (fun _ => ?_)
      | refine Br.go (fun _ => ?_) (fun _ => ?_)
      | refine draw_go hT hP mixed ?_
      | refine round_go hT hP ?_
    all_goals (try dsimp only [castL_eq] at *)
    all_goals clear hT hP
    · show 0 ≤ (j : Int) ∧ (j : Int) < (bc.length : Int)
      omega
    · rename_i g8 g9
      have g8 : (j : Int) < (bc.length : Int) := g8
      have g9 : strEq (bc.getD j (dflt ChipT)).1 (wf.extract 0 (dotI wf).toNat) = true := g9
      apply Exists.intro
      apply Exists.intro _
      refine And.intro (And.intro ?lt245 (And.intro ?ei245 ?inv245)) (Le.mk [] [0, 1, 2] rfl rfl ?hh245 ?ht245)
      case hh245 => exact rfl
      case ht245 => repeat' first | exact trivial | exact ⟨rfl, rfl⟩ | refine And.intro ?_ ?_
      case lt245 => omega
      case ei245 => exact up_i (by omega)
      rw [kindL_step (show j < bc.length by omega)]
      exact (if_pos g9).symm
    · rename_i g8 g9
      have g8 : (j : Int) < (bc.length : Int) := g8
      have g9 : strEq (bc.getD j (dflt ChipT)).1 (wf.extract 0 (dotI wf).toNat) = false := g9
      apply Exists.intro
      apply Exists.intro _
      refine And.intro (And.intro ?lt257 (And.intro ?ei257 ?inv257)) (Le.mk [] [0, 1, 2] rfl rfl ?hh257 ?ht257)
      case hh257 => exact rfl
      case ht257 => repeat' first | exact trivial | exact ⟨rfl, rfl⟩ | refine And.intro ?_ ?_
      case lt257 => omega
      case ei257 => exact up_i (by omega)
      rw [kindL_step (show j < bc.length by omega), hkd]
      exact (if_neg (by rw [g9]; decide)).symm
    · rename_i g8 g9
      have g8 : ¬ (j : Int) < (bc.length : Int) := g8
      have hk3 := hk2 (by omega)
      have g9 : kd < 0 := g9
      rw [hk3, kindL_neg h0] at g9
      have e4 : wireE (bn, (un, ui, ur, uq, um), bc, bw) (wf, wt) = 4 := by rw [hWE, hnm, if_pos g9]
      rw [e4, if_pos (by decide)] at hs
      refine .mk [] [] _ rfl rfl rfl rfl rfl rfl (imm_int ?_)
      rw [hBE, ← hs.1 (by decide)]
    · show ((wf.extract 0 (dotI wf).toNat)).size + 4 < 4611686018427387904
      omega
    all_goals (have hk3 := fun h : ¬ (j : Int) < (bc.length : Int) => hk2 (by omega))
    all_goals (
      have hF : ¬ kd < 0 → ¬ (j : Int) < (bc.length : Int) → (¬ fstI (nmB (cutB wf)) bc < 0) ∧ kd = (bc.getD (fstI (nmB (cutB wf)) bc).toNat (dflt ChipT)).2.1 := fun h1 h2 => by
        have e := hk3 h2
        have h4 : ¬ fstI (nmB (cutB wf)) bc < 0 := fun h => h1 (by rw [hnm] at h; rw [e, kindL_neg h0]; exact h)
        refine ⟨h4, ?_⟩
        rw [hnm] at h4 ⊢
        rw [e, kindL_eq (names_differ h0), if_neg h4])
    all_goals (have hp := pin_eq wf; rw [hnm] at hp)
    · rename_i g8 g9 g10
      obtain ⟨f1, f2⟩ := hF g9 g8
      have g10 : (!strEq wf ((wf.extract 0 (dotI wf).toNat) ++ irqS)) = true := g10
      rw [hp] at g10
      have e4 : wireE (bn, (un, ui, ur, uq, um), bc, bw) (wf, wt) = 8 := by rw [hWE, if_neg f1, if_pos (.inl (by simpa using g10))]
      rw [e4, if_pos (by decide)] at hs
      refine .mk [] [] _ rfl rfl rfl rfl rfl rfl (imm_int ?_)
      rw [hBE, ← hs.1 (by decide)]
    · rename_i g8 g9 g10 g11
      obtain ⟨f1, f2⟩ := hF g9 g8
      have g11 : (!askK kd) = true := g11
      rw [f2] at g11
      have e4 : wireE (bn, (un, ui, ur, uq, um), bc, bw) (wf, wt) = 8 := by rw [hWE, if_neg f1, if_pos (.inr (by simpa using g11))]
      rw [e4, if_pos (by decide)] at hs
      refine .mk [] [] _ rfl rfl rfl rfl rfl rfl (imm_int ?_)
      rw [hBE, ← hs.1 (by decide)]
    · rename_i g8 g9 g10 g11 g12
      obtain ⟨f1, f2⟩ := hF g9 g8
      have g10 : (!strEq wf ((wf.extract 0 (dotI wf).toNat) ++ irqS)) = false := g10
      rw [hp] at g10
      have g11 : (!askK kd) = false := g11
      rw [f2] at g11
      have g12 : (!strEq wt cpuIrq) = true := g12
      have e4 : wireE (bn, (un, ui, ur, uq, um), bc, bw) (wf, wt) = 20 := by
        rw [hWE, if_neg f1, if_neg (fun h => h.elim (fun h => by rw [h] at g10; cases g10) (fun h => by rw [h] at g11; cases g11)), if_pos (by simpa using g12)]
      rw [e4, if_pos (by decide)] at hs
      refine .mk [] [] _ rfl rfl rfl rfl rfl rfl (imm_int ?_)
      rw [hBE, ← hs.1 (by decide)]
    · rename_i g8 g9 g10 g11 g12 g13
      obtain ⟨f1, f2⟩ := hF g9 g8
      have g10 : (!strEq wf ((wf.extract 0 (dotI wf).toNat) ++ irqS)) = false := g10
      rw [hp] at g10
      have g11 : (!askK kd) = false := g11
      rw [f2] at g11
      have g12 : (!strEq wt cpuIrq) = false := g12
      have g13 : getOr (mapGet M (wf, wt)) (dflt .bool) = true := g13
      have g13 : (bw.take q).any (sameW (wf, wt)) = true := (hM (wf, wt)).symm.trans g13
      have e4 : wireE (bn, (un, ui, ur, uq, um), bc, bw) (wf, wt) = 0 := by
        rw [hWE, if_neg f1, if_neg (fun h => h.elim (fun h => by rw [h] at g10; cases g10) (fun h => by rw [h] at g11; cases g11)), if_neg (fun h => by rw [h] at g12; cases g12)]
      rw [e4, if_neg (by decide), if_pos g13] at hs
      refine .mk [] [] _ rfl rfl rfl rfl rfl rfl (imm_int ?_)
      rw [hBE, ← hs.1 (by decide)]
    · rename_i g8 g9 g10 g11 g12 g13
      obtain ⟨f1, f2⟩ := hF g9 g8
      have g10 : (!strEq wf ((wf.extract 0 (dotI wf).toNat) ++ irqS)) = false := g10
      rw [hp] at g10
      have g11 : (!askK kd) = false := g11
      rw [f2] at g11
      have g12 : (!strEq wt cpuIrq) = false := g12
      have g13 : getOr (mapGet M (wf, wt)) (dflt .bool) = false := g13
      have g13 : (bw.take q).any (sameW (wf, wt)) = false := (hM (wf, wt)).symm.trans g13
      have e4 : wireE (bn, (un, ui, ur, uq, um), bc, bw) (wf, wt) = 0 := by
        rw [hWE, if_neg f1, if_neg (fun h => h.elim (fun h => by rw [h] at g10; cases g10) (fun h => by rw [h] at g11; cases g11)), if_neg (fun h => by rw [h] at g12; cases g12)]
      rw [e4, if_neg (by decide), if_neg (by rw [g13]; decide)] at hs
      apply Exists.intro
      apply Exists.intro (mapPut M (wf, wt) true)
      refine And.intro (And.intro ?lt340 (And.intro ?ei340 ?inv340)) (Le.mk [] [0, 1] rfl rfl ?hh340 ?ht340)
      case hh340 => exact rfl
      case ht340 => repeat' first | exact trivial | exact ⟨rfl, rfl⟩ | refine And.intro ?_ ?_
      case lt340 => omega
      case ei340 => exact up_i (by omega)
      exact ⟨hs.2 rfl, wKeys_put hM (by omega) hw⟩
  · rename_i g6 g7
    have g6 : (q : Int) < (bw.length : Int) := g6
    have hs := hs (by show q < bw.length; omega)
    have hsz : wf.size ≤ 140737488351232 := hsz (by omega)
    have g7 : ¬ dotI wf ≥ 0 := g7
    have hnm : cutB wf = wf := if_neg g7
    have hns : (wf).size ≤ 140737488351232 := hsz
    refine up_go hT hP (A := Int) bc.length (fun j kd => St.mk [.dead, .cell (.ptr 0 0), .dead, .dead, .dead, .dead, .dead, .dead, .dead, .cell (.map 1), .dead, .cell (.ptr 2 0), .cell (.imm (.string wf)), .dead, I kd, .dead, .dead, .dead, .dead, .dead, .dead, .dead, .dead, .dead, .dead, .dead, .dead, .dead, .dead, .dead, .dead, .dead, .dead, .dead, .dead, .dead, .dead, .dead, .dead, .dead, .dead, .dead, .dead, .dead, .dead, .dead, .dead, .dead, .dead, .dead, .dead, .dead, .dead, .dead, .dead, .dead, .dead, .dead, .dead, .dead, .dead, .dead, .dead, .dead, .dead, .dead, .dead, .dead, .dead, .dead, .dead, .dead, .dead, .dead, .dead, .dead, .dead, .dead, .dead, .dead, .dead, .dead, .dead, .cell (.ro WireT bw), I bw.length, I q, .dead, .dead, .dead, .dead, .dead, .dead, .dead, .dead, .dead, .dead, .dead, .dead, .dead, .dead, .dead, .cell (.ro ChipT bc), I bc.length, I j, .dead, .dead, .dead, .dead, .dead, .dead, .dead, .dead, .dead, .dead, .dead, .dead, .dead, .dead, .dead, .dead, .dead, .dead, .dead, .dead, .dead, .dead, .dead, .dead, .dead, .dead, .dead, .dead, .dead, .dead, .dead, .dead, .dead, .dead, .dead]
        [some (.var [.imm (.string bn), .imm (.string un), .ro InsT ui, .ro CycT ur, .ro CycT uq, .ro CycT um, .ro ChipT bc, .ro WireT bw]), some (.mp true WireT .bool M), some (.var [.imm (.string wf), .imm (.string wt)])])
      (fun j kd => kd = kindL wf (bc.take j)) (-1) (Le.mk [] [0, 1, 2] rfl rfl ?_ ?_) rfl fun j kd hj3 hkd => ?_
    · exact rfl
    · repeat' first | exact trivial | exact ⟨rfl, rfl⟩ | refine And.intro ?_ ?_
    have hk2 : j = bc.length → kd = kindL wf bc := fun e => by rw [hkd, e, List.take_length]
    repeat' first
      | (refine Go.mk ?_; conv => whnf)
      | refine Need.go ?_ ?_
      | refine NilG.go (fun _ => ?_) (fun _ => ?_)
      | refine Br.dec (fun _ => ?_) (fun _ => ?_)
      | refine Br.go (fun _ => ?_) (fun _ => ?_)
      | refine draw_go hT hP mixed ?_
      | refine round_go hT hP ?_
    all_goals (try dsimp only [castL_eq] at *)
    all_goals clear hT hP
    · show 0 ≤ (j : Int) ∧ (j : Int) < (bc.length : Int)
      omega
    · rename_i g8 g9
      have g8 : (j : Int) < (bc.length : Int) := g8
      have g9 : strEq (bc.getD j (dflt ChipT)).1 wf = true := g9
      apply Exists.intro
      apply Exists.intro _
      refine And.intro (And.intro ?lt376 (And.intro ?ei376 ?inv376)) (Le.mk [] [0, 1, 2] rfl rfl ?hh376 ?ht376)
      case hh376 => exact rfl
      case ht376 => repeat' first | exact trivial | exact ⟨rfl, rfl⟩ | refine And.intro ?_ ?_
      case lt376 => omega
      case ei376 => exact up_i (by omega)
      rw [kindL_step (show j < bc.length by omega)]
      exact (if_pos g9).symm
    · rename_i g8 g9
      have g8 : (j : Int) < (bc.length : Int) := g8
      have g9 : strEq (bc.getD j (dflt ChipT)).1 wf = false := g9
      apply Exists.intro
      apply Exists.intro _
      refine And.intro (And.intro ?lt388 (And.intro ?ei388 ?inv388)) (Le.mk [] [0, 1, 2] rfl rfl ?hh388 ?ht388)
      case hh388 => exact rfl
      case ht388 => repeat' first | exact trivial | exact ⟨rfl, rfl⟩ | refine And.intro ?_ ?_
      case lt388 => omega
      case ei388 => exact up_i (by omega)
      rw [kindL_step (show j < bc.length by omega), hkd]
      exact (if_neg (by rw [g9]; decide)).symm
    · rename_i g8 g9
      have g8 : ¬ (j : Int) < (bc.length : Int) := g8
      have hk3 := hk2 (by omega)
      have g9 : kd < 0 := g9
      rw [hk3, kindL_neg h0] at g9
      have e4 : wireE (bn, (un, ui, ur, uq, um), bc, bw) (wf, wt) = 4 := by rw [hWE, hnm, if_pos g9]
      rw [e4, if_pos (by decide)] at hs
      refine .mk [] [] _ rfl rfl rfl rfl rfl rfl (imm_int ?_)
      rw [hBE, ← hs.1 (by decide)]
    · show (wf).size + 4 < 4611686018427387904
      omega
    all_goals (have hk3 := fun h : ¬ (j : Int) < (bc.length : Int) => hk2 (by omega))
    all_goals (
      have hF : ¬ kd < 0 → ¬ (j : Int) < (bc.length : Int) → (¬ fstI (nmB (cutB wf)) bc < 0) ∧ kd = (bc.getD (fstI (nmB (cutB wf)) bc).toNat (dflt ChipT)).2.1 := fun h1 h2 => by
        have e := hk3 h2
        have h4 : ¬ fstI (nmB (cutB wf)) bc < 0 := fun h => h1 (by rw [hnm] at h; rw [e, kindL_neg h0]; exact h)
        refine ⟨h4, ?_⟩
        rw [hnm] at h4 ⊢
        rw [e, kindL_eq (names_differ h0), if_neg h4])
    all_goals (have hp := pin_eq wf; rw [hnm] at hp)
    · rename_i g8 g9 g10
      obtain ⟨f1, f2⟩ := hF g9 g8
      have g10 : (!strEq wf (wf ++ irqS)) = true := g10
      rw [hp] at g10
      have e4 : wireE (bn, (un, ui, ur, uq, um), bc, bw) (wf, wt) = 8 := by rw [hWE, if_neg f1, if_pos (.inl (by simpa using g10))]
      rw [e4, if_pos (by decide)] at hs
      refine .mk [] [] _ rfl rfl rfl rfl rfl rfl (imm_int ?_)
      rw [hBE, ← hs.1 (by decide)]
    · rename_i g8 g9 g10 g11
      obtain ⟨f1, f2⟩ := hF g9 g8
      have g11 : (!askK kd) = true := g11
      rw [f2] at g11
      have e4 : wireE (bn, (un, ui, ur, uq, um), bc, bw) (wf, wt) = 8 := by rw [hWE, if_neg f1, if_pos (.inr (by simpa using g11))]
      rw [e4, if_pos (by decide)] at hs
      refine .mk [] [] _ rfl rfl rfl rfl rfl rfl (imm_int ?_)
      rw [hBE, ← hs.1 (by decide)]
    · rename_i g8 g9 g10 g11 g12
      obtain ⟨f1, f2⟩ := hF g9 g8
      have g10 : (!strEq wf (wf ++ irqS)) = false := g10
      rw [hp] at g10
      have g11 : (!askK kd) = false := g11
      rw [f2] at g11
      have g12 : (!strEq wt cpuIrq) = true := g12
      have e4 : wireE (bn, (un, ui, ur, uq, um), bc, bw) (wf, wt) = 20 := by
        rw [hWE, if_neg f1, if_neg (fun h => h.elim (fun h => by rw [h] at g10; cases g10) (fun h => by rw [h] at g11; cases g11)), if_pos (by simpa using g12)]
      rw [e4, if_pos (by decide)] at hs
      refine .mk [] [] _ rfl rfl rfl rfl rfl rfl (imm_int ?_)
      rw [hBE, ← hs.1 (by decide)]
    · rename_i g8 g9 g10 g11 g12 g13
      obtain ⟨f1, f2⟩ := hF g9 g8
      have g10 : (!strEq wf (wf ++ irqS)) = false := g10
      rw [hp] at g10
      have g11 : (!askK kd) = false := g11
      rw [f2] at g11
      have g12 : (!strEq wt cpuIrq) = false := g12
      have g13 : getOr (mapGet M (wf, wt)) (dflt .bool) = true := g13
      have g13 : (bw.take q).any (sameW (wf, wt)) = true := (hM (wf, wt)).symm.trans g13
      have e4 : wireE (bn, (un, ui, ur, uq, um), bc, bw) (wf, wt) = 0 := by
        rw [hWE, if_neg f1, if_neg (fun h => h.elim (fun h => by rw [h] at g10; cases g10) (fun h => by rw [h] at g11; cases g11)), if_neg (fun h => by rw [h] at g12; cases g12)]
      rw [e4, if_neg (by decide), if_pos g13] at hs
      refine .mk [] [] _ rfl rfl rfl rfl rfl rfl (imm_int ?_)
      rw [hBE, ← hs.1 (by decide)]
    · rename_i g8 g9 g10 g11 g12 g13
      obtain ⟨f1, f2⟩ := hF g9 g8
      have g10 : (!strEq wf (wf ++ irqS)) = false := g10
      rw [hp] at g10
      have g11 : (!askK kd) = false := g11
      rw [f2] at g11
      have g12 : (!strEq wt cpuIrq) = false := g12
      have g13 : getOr (mapGet M (wf, wt)) (dflt .bool) = false := g13
      have g13 : (bw.take q).any (sameW (wf, wt)) = false := (hM (wf, wt)).symm.trans g13
      have e4 : wireE (bn, (un, ui, ur, uq, um), bc, bw) (wf, wt) = 0 := by
        rw [hWE, if_neg f1, if_neg (fun h => h.elim (fun h => by rw [h] at g10; cases g10) (fun h => by rw [h] at g11; cases g11)), if_neg (fun h => by rw [h] at g12; cases g12)]
      rw [e4, if_neg (by decide), if_neg (by rw [g13]; decide)] at hs
      apply Exists.intro
      apply Exists.intro (mapPut M (wf, wt) true)
      refine And.intro (And.intro ?lt471 (And.intro ?ei471 ?inv471)) (Le.mk [] [0, 1] rfl rfl ?hh471 ?ht471)
      case hh471 => exact rfl
      case ht471 => repeat' first | exact trivial | exact ⟨rfl, rfl⟩ | refine And.intro ?_ ?_
      case lt471 => omega
      case ei471 => exact up_i (by omega)
      exact ⟨hs.2 rfl, wKeys_put hM (by omega) hw⟩
  · rename_i g6
    have g6 : ¬ (q : Int) < (bw.length : Int) := g6
    refine .mk [] [] _ rfl rfl rfl rfl rfl rfl (imm_int ?_)
    rw [hBE, ← hj, List.drop_of_length_le (by rw [List.length_range]; omega)]; rfl

end Go.Proofs.YtofgbclopbmlcaaGreat

/- What is wrong with a machine's state and its inputs, as plain functions. -/
namespace Go.Proofs.YtofgbclopbmlcaaGreat
open Go.Fw
set_option linter.unusedVariables false
set_option linter.unusedSimpArgs false
set_option linter.constructorNameAsVariable false
set_option maxRecDepth 100000

theorem neN {a b : Nat} (h : ((a : Int) != (b : Int)) = true) : a ≠ b := fun e => by subst e; simp at h
theorem eqN {a b : Nat} (h : ((a : Int) != (b : Int)) = false) : a = b := by simp at h; omega
theorem rangeE_step {f : Nat → Int} {n k : Nat} (hk : k < n) (hi : errL f ((List.range n).drop k) = errL f (List.range n)) :
    (f k ≠ 0 → f k = errL f (List.range n)) ∧ (f k = 0 → errL f ((List.range n).drop (k + 1)) = errL f (List.range n)) := by
  have hr : k < (List.range n).length := by rw [List.length_range]; exact hk
  have e1 := range_get hk
  constructor
  · intro h
    rw [← hi, errL_no 0 hr (by rw [e1]; exact h), e1]
  · intro h
    rw [← hi, errL_ok 0 hr (by rw [e1]; exact h)]
theorem rangeE_end {f : Nat → Int} {n k : Nat} (hk : ¬ k < n) (hi : errL f ((List.range n).drop k) = errL f (List.range n)) : errL f (List.range n) = 0 := by
  rw [← hi, List.drop_of_length_le (by rw [List.length_range]; omega)]; rfl
/-- what is wrong with an input: its time, its chip -/
def inpE (bc : List Cv) (l : List Inp) (k : Nat) : Int :=
  if 0 < k ∧ (l.getD k (dflt InpT)).1 < (l.getD (k - 1) (dflt InpT)).1 then 9
  else if strEq (l.getD k (dflt InpT)).2.1 cpuStr = true ∨ bc.any (nmB (l.getD k (dflt InpT)).2.1) = true then 0 else 4
def stateE (b : Bd) (m : Mach) (l : List Inp) : Int :=
  if boardE b ≠ 0 then boardE b else if m.2.2.1.length ≠ b.2.2.1.length then 3
  else if m.1 < 0 ∨ m.1 > 1099511627776 then 1 else if l.length > 500 then 2
  else errL (inpE b.2.2.1 l) (List.range l.length)
def stP (b : Bd) (m : Mach) (l : List Inp) : Prop := chkP b ∧ l.length ≤ 4611686018427387904
def mcheckS : PSpec := ⟨[gBd, gM, gIn], fun (b, m, l, _) => (some (stP b m l), I (stateE b m l), [])⟩
def namesL (bc : List Cv) : List ByteArray := cpuStr :: bc.map fun c => c.1
theorem namesL_any (bc : List Cv) (s : ByteArray) : (namesL bc).any (strEq s) = true ↔ strEq s cpuStr = true ∨ bc.any (nmB s) = true := by
  unfold namesL
  rw [List.any_cons, Bool.or_eq_true, List.any_map]
  refine or_congr Iff.rfl ?_
  rw [List.any_eq_true, List.any_eq_true]
  refine ⟨fun ⟨c, h1, h2⟩ => ⟨c, h1, strEq_iff.2 (strEq_iff.1 h2).symm⟩, fun ⟨c, h1, h2⟩ => ⟨c, h1, strEq_iff.2 (strEq_iff.1 h2).symm⟩⟩
theorem namesL_take {bc : List Cv} {k : Nat} (h : k < bc.length) : namesL (bc.take (k + 1)) = namesL (bc.take k) ++ [(bc.getD k (dflt ChipT)).1] := by
  unfold namesL
  rw [take_snoc2 (dflt ChipT) h, List.map_append]; rfl

end Go.Proofs.YtofgbclopbmlcaaGreat

/- Cables and the chips they lead to (printed by genlnk.py). -/
namespace Go.Proofs.YtofgbclopbmlcaaGreat
open Go.Fw
set_option linter.unusedVariables false
set_option linter.unusedSimpArgs false
set_option linter.constructorNameAsVariable false
set_option maxRecDepth 100000

abbrev NodeT : Ty := .pair BoardT (.pair MachT (.sl InpT))
abbrev Nod := Bd × Mach × List Inp
abbrev CabT : Ty := .pair (.int .i64) (.pair .str (.pair (.int .i64) (.pair .str (.int .i64))))
abbrev Cab := Int × ByteArray × Int × ByteArray × Int
abbrev gNl : Sig := ⟨false, .sl NodeT⟩
abbrev gCl : Sig := ⟨false, .sl CabT⟩
def toB (c d : Cab) : Bool := bif decide (d.2.2.1 = c.2.2.1) then strEq d.2.2.2.1 c.2.2.2.1 else false
def nodeE (t : Int) (x : Nod) : Int := if stateE x.1 x.2.1 x.2.2 ≠ 0 then stateE x.1 x.2.1 x.2.2 else if x.2.2.length > 488 then 2 else if x.2.1.1 ≠ t then 7 else 0

def lrcRd : List V1 → List Blk → Option (Cv × ByteArray) := fun a b => match a, b with
  | [.agg [.imm (.string en), .imm (.int .i64 ek), .imm (.int .i64 eb), .imm (.int .i64 es), .ro (.int .u8) ed], .c (.ptr 0 0)], [.var [.imm (.string s)]] => some ((en, ek, eb, es, ed), s)
  | _, _ => none
theorem lrcRd_ok {a : List V1} {b : List Blk} {x : Cv × ByteArray} (h : lrcRd a b = some x) : a = [.agg [.imm (.string x.1.1), iv .i64 x.1.2.1, iv .i64 x.1.2.2.1, iv .i64 x.1.2.2.2.1, .ro (.int .u8) x.1.2.2.2.2], .c (.ptr 0 0)] ∧ b = [.var [.imm (.string x.2)]] := by
  unfold lrcRd at h
  split at h
  · injection h with h; subst h; exact ⟨rfl, rfl⟩
  · cases h
def lrcS : WSpec := ⟨Cv × ByteArray, fun x => [.agg [.imm (.string x.1.1), iv .i64 x.1.2.1, iv .i64 x.1.2.2.1, iv .i64 x.1.2.2.2.1, .ro (.int .u8) x.1.2.2.2.2], .c (.ptr 0 0)], fun x => [.var [.imm (.string x.2)]], lrcRd,
  fun x => (some ((fun _ => True) x.2), .cell (bv (serB x.2 x.1)), [some (.var [.imm (.string x.2)])], [])⟩
theorem lrc_ok : GoodF Tryz.prog 50 lrcS.spec := by
  have hT := tab_ok (fs := []) tree_ok
  have hP : SpecsOk Tryz.prog (tab tree []) := specs_nil
  refine lrcS.good (fn := Tryz.f50) hT hP Tryz.func50 (by kernel_rfl) rfl (fun _ _ _ h => lrcRd_ok h) fun (x : Cv × ByteArray) hq => ?_
  have hq : (fun _ => True) x.2 := hq _ rfl
  repeat' first
    | (refine Go.mk ?_; conv => whnf)
    | refine Need.go ?_ ?_
    | refine NilG.go (fun _ => ?_) (fun _ => ?_)
    | refine Br.dec (fun _ => ?_) (fun _ => ?_)
    | refine Br.go (fun _ => ?_) (fun _ => ?_)
    | refine draw_go hT hP mixed ?_
    | refine round_go hT hP ?_
  all_goals clear hT hP
  all_goals first
    | (rename_i g
       have g : strEq x.1.1 x.2 = true := g
       refine .mk [] [0] _ rfl rfl rfl rfl rfl rfl (imm_bool ?_)
       show _ = bif strEq x.1.1 x.2 then decide (x.1.2.1 = 5) else false
       rw [g]; rfl)
    | (rename_i g
       have g : strEq x.1.1 x.2 = false := g
       refine .mk [] [0] _ rfl rfl rfl rfl rfl rfl (imm_bool ?_)
       show _ = bif strEq x.1.1 x.2 then decide (x.1.2.1 = 5) else false
       rw [g]; rfl)
    | skip
structure lrX where
  l : List Cv
  d : ByteArray
def lrRd : List V1 → List Blk → Option lrX := fun a b => match a, b with
  | [.c (.ro (.pair .str (.pair (.int .i64) (.pair (.int .i64) (.pair (.int .i64) (.sl (.int .u8)))))) l), .c (.fn 50 [0])], [.var [.imm (.string s)]] => some ⟨l, s⟩
  | _, _ => none
theorem lrRd_ok {a : List V1} {b : List Blk} {x : lrX} (h : lrRd a b = some x) : a = [.c (.ro ChipT x.l), .c (.fn 50 [0])] ∧ b = [.var [.imm (.string x.d)]] := by
  unfold lrRd at h
  split at h
  · injection h with h; subst h; exact ⟨rfl, rfl⟩
  · cases h
def lriS : WSpec := ⟨lrX, fun x => [.c (.ro ChipT x.l), .c (.fn 50 [0])], fun x => [.var [.imm (.string x.d)]], lrRd,
  fun x => (some (x.l.length ≤ 4611686018427387904 ∧ (fun _ => True) x.d), I (fstI (serB x.d) x.l), [some (.var [.imm (.string x.d)])], [])⟩
theorem lri_ok : GoodF Tryz.prog 98 lriS.spec := by
  have hT := tab_ok (fs := [(50, lrcS.spec)]) tree_ok
  have hP : SpecsOk Tryz.prog (tab tree [(50, lrcS.spec)]) := specs_cons lrc_ok specs_nil
  refine lriS.good (fn := Tryz.f98) hT hP Tryz.func98 (by kernel_rfl) rfl (fun _ _ _ h => lrRd_ok h) fun (x : lrX) hq => ?_
  obtain ⟨hl, hq⟩ : x.l.length ≤ 4611686018427387904 ∧ (fun _ => True) x.d := hq _ rfl
  obtain ⟨l, d⟩ := x
  have hl : l.length ≤ 4611686018427387904 := hl
  repeat' first
    | (refine Go.mk ?_; conv => whnf)
    | refine Need.go ?_ ?_
    | refine NilG.go (fun _ => ?_) (fun _ => ?_)
    | refine Br.dec (fun _ => ?_) (fun _ => ?_)
    | refine Br.go (fun _ => ?_) (fun _ => ?_)
    | refine draw_go hT hP mixed ?_
    | refine round_go hT hP ?_
  refine up_go hT hP (A := Unit) l.length (fun i _ => St.mk [.cell (.ro ChipT l), .cell (.fn 50 [0]), .dead, .dead, .dead, .dead, .dead, I l.length, I i, .dead, .dead, .dead, .dead, .dead, .dead, .dead, .dead, .dead, .dead] [some (.var [.imm (.string d)])])
    (fun k _ => fstG (serB d) (l.drop k) k = fstI (serB d) l) () (Le.mk [] [0] rfl rfl rfl ?_) rfl fun k _ hk hi => ?_
  · repeat' first | exact trivial | exact ⟨rfl, rfl⟩ | refine And.intro ?_ ?_
  repeat' first
    | (refine Go.mk ?_; conv => whnf)
    | refine Need.go ?_ ?_
    | refine NilG.go (fun _ => ?_) (fun _ => ?_)
    | refine Br.dec (fun _ => ?_) (fun _ => ?_)
    | refine Br.go (fun _ => ?_) (fun _ => ?_)
    | refine draw_go hT hP mixed ?_
    | refine round_go hT hP ?_
  all_goals clear hT hP
  · rename_i g1
    have g1 : (k : Int) < (l.length : Int) := g1
    show 0 ≤ (k : Int) ∧ (k : Int) < (l.length : Int)
    omega
  · first | exact hq | exact trivial
  · rename_i g1 g2
    have g1 : (k : Int) < (l.length : Int) := g1
    exact .mk [] [0] _ rfl rfl rfl rfl rfl rfl (imm_int (fst_hit (dflt ChipT) (by omega) g2 hi))
  · rename_i g1 g2
    have g1 : (k : Int) < (l.length : Int) := g1
    have hp : ¬ serB d (l.getD k (dflt ChipT)) = true := by
      have g2 : serB d (l.getD k (dflt ChipT)) = false := g2
      rw [g2]; decide
    apply Exists.intro
    apply Exists.intro ()
    refine And.intro (And.intro ?lt108 (And.intro ?ei108 ?inv108)) (Le.mk [] [0] rfl rfl ?hh108 ?ht108)
    case hh108 => exact rfl
    case ht108 => repeat' first | exact trivial | exact ⟨rfl, rfl⟩ | refine And.intro ?_ ?_
    case lt108 => omega
    case ei108 => exact up_i (by omega)
    exact fst_miss (dflt ChipT) (by omega) hp hi
  · rename_i g1
    have g1 : ¬ (k : Int) < (l.length : Int) := g1
    exact .mk [] [0] _ rfl rfl rfl rfl rfl rfl (imm_int (fst_none (by omega) hi))

def lrtS : WSpec := ⟨lrX, fun x => [.c (.ro ChipT x.l), .c (.fn 50 [0])], fun x => [.var [.imm (.string x.d)]], lrRd,
  fun x => (some (x.l.length ≤ 4611686018427387904 ∧ (fun _ => True) x.d), .cell (bv (x.l.any (serB x.d))), [some (.var [.imm (.string x.d)])], [])⟩
theorem lrt_ok : GoodF Tryz.prog 49 lrtS.spec := by
  have hT := tab_ok (fs := [(98, lriS.spec)]) tree_ok
  have hP : SpecsOk Tryz.prog (tab tree [(98, lriS.spec)]) := specs_cons lri_ok specs_nil
  refine lrtS.good (fn := Tryz.f49) hT hP Tryz.func49 (by kernel_rfl) rfl (fun _ _ _ h => lrRd_ok h) fun (x : lrX) hq => ?_
  have hq : x.l.length ≤ 4611686018427387904 ∧ (fun _ => True) x.d := hq _ rfl
  obtain ⟨l, d⟩ := x
  repeat' first
    | (refine Go.mk ?_; conv => whnf)
    | refine Need.go ?_ ?_
    | refine NilG.go (fun _ => ?_) (fun _ => ?_)
    | refine Br.dec (fun _ => ?_) (fun _ => ?_)
    | refine Br.go (fun _ => ?_) (fun _ => ?_)
    | refine draw_go hT hP mixed ?_
    | refine round_go hT hP ?_
  all_goals clear hT hP
  · first | exact hq | exact trivial
  · exact .mk [] [0] _ rfl rfl rfl rfl rfl rfl (imm_bool (fst_any (serB d) l))

def hasS (l : List Nod) (i : Int) (s : ByteArray) : Bool := (l.getD i.toNat (dflt NodeT)).1.2.2.1.any (serB s)
structure leX where
  i : Int
  s : ByteArray
  l : List Nod
def leRd : List V1 → List Blk → Option leX := fun a b => match a, b with
  | [.c (.imm (.int .i64 i)), .c (.imm (.string s)), .c (.ptr 0 0)], [.var [.ro (.pair (.pair .str (.pair (.pair .str (.pair (.sl (.pair (.int .i64) (.pair .str (.pair (.int .i64) (.sl (.pair (.int .i64) (.pair (.int .i64) (.pair (.int .i64) (.sl (.pair (.int .i64) (.pair (.int .i64) (.pair (.int .i64) (.int .i64))))))))))))) (.pair (.sl (.pair (.int .i64) (.pair (.int .i64) (.pair (.int .i64) (.sl (.pair (.int .i64) (.pair (.int .i64) (.pair (.int .i64) (.int .i64))))))))) (.pair (.sl (.pair (.int .i64) (.pair (.int .i64) (.pair (.int .i64) (.sl (.pair (.int .i64) (.pair (.int .i64) (.pair (.int .i64) (.int .i64))))))))) (.sl (.pair (.int .i64) (.pair (.int .i64) (.pair (.int .i64) (.sl (.pair (.int .i64) (.pair (.int .i64) (.pair (.int .i64) (.int .i64))))))))))))) (.pair (.sl (.pair .str (.pair (.int .i64) (.pair (.int .i64) (.pair (.int .i64) (.sl (.int .u8))))))) (.sl (.pair .str .str))))) (.pair (.pair (.int .i64) (.pair (.pair (.ints .i64 9) (.pair (.int .i64) (.pair (.int .i64) .bool))) (.pair (.sl (.pair (.sl (.int .i64)) (.sl (.int .u8)))) (.pair (.int .i64) (.pair (.int .i64) (.int .i64)))))) (.sl (.pair (.int .i64) (.pair .str (.int .i64)))))) l]] => some ⟨i, s, l⟩
  | _, _ => none
theorem leRd_ok {a : List V1} {b : List Blk} {x : leX} (h : leRd a b = some x) : a = [.c (iv .i64 x.i), .c (.imm (.string x.s)), .c (.ptr 0 0)] ∧ b = [.var [.ro NodeT x.l]] := by
  unfold leRd at h
  split at h
  · injection h with h; subst h; exact ⟨rfl, rfl⟩
  · cases h
def leP (x : leX) : Prop := (0 ≤ x.i ∧ x.i < (x.l.length : Int)) ∧ ∀ n ∈ x.l, n.1.2.2.1.length ≤ 4611686018427387904
def leS : WSpec := ⟨leX, fun x => [.c (iv .i64 x.i), .c (.imm (.string x.s)), .c (.ptr 0 0)], fun x => [.var [.ro NodeT x.l]], leRd,
  fun x => (some (leP x), .cell (bv (hasS x.l x.i x.s)), [some (.var [.ro NodeT x.l])], [])⟩
theorem le_ok : GoodF Tryz.prog 48 leS.spec := by
  have hT := tab_ok (fs := [(49, lrtS.spec)]) tree_ok
  have hP : SpecsOk Tryz.prog (tab tree [(49, lrtS.spec)]) := specs_cons lrt_ok specs_nil
  refine leS.good (fn := Tryz.f48) hT hP Tryz.func48 (by kernel_rfl) rfl (fun _ _ _ h => leRd_ok h) fun (x : leX) hq => ?_
  obtain ⟨h1, h2⟩ : leP x := hq _ rfl
  clear hq
  obtain ⟨i, s, l⟩ := x
  have h1 : 0 ≤ i ∧ i < (l.length : Int) := h1
  have h2 : ∀ n ∈ l, n.1.2.2.1.length ≤ 4611686018427387904 := h2
  repeat' first
    | (refine Go.mk ?_; conv => whnf)
    | refine Need.go ?_ ?_
    | refine NilG.go (fun _ => ?_) (fun _ => ?_)
    | refine Br.dec (fun _ => ?_) (fun _ => ?_)
    | refine Br.go (fun _ => ?_) (fun _ => ?_)
    | refine draw_go hT hP mixed ?_
    | refine round_go hT hP ?_
  all_goals (try dsimp only [castL_eq] at *)
  all_goals clear hT hP
  · exact h1
  · exact ⟨h2 _ (memD' (dflt NodeT) (show i.toNat < l.length by omega)), trivial⟩
  · exact .mk [] [0] _ rfl rfl rfl rfl rfl rfl rfl

def lccRd : List V1 → List Blk → Option (Cab × Cab) := fun a b => match a, b with
  | [.agg [.imm (.int .i64 ef), .imm (.string eo), .imm (.int .i64 et), .imm (.string ei), .imm (.int .i64 ed)], .c (.ptr 0 0)], [.var [.imm (.int .i64 cf), .imm (.string co), .imm (.int .i64 ct), .imm (.string ci), .imm (.int .i64 cd)]] => some ((ef, eo, et, ei, ed), (cf, co, ct, ci, cd))
  | _, _ => none
theorem lccRd_ok {a : List V1} {b : List Blk} {x : Cab × Cab} (h : lccRd a b = some x) : a = [.agg [iv .i64 x.1.1, .imm (.string x.1.2.1), iv .i64 x.1.2.2.1, .imm (.string x.1.2.2.2.1), iv .i64 x.1.2.2.2.2], .c (.ptr 0 0)] ∧ b = [.var [iv .i64 x.2.1, .imm (.string x.2.2.1), iv .i64 x.2.2.2.1, .imm (.string x.2.2.2.2.1), iv .i64 x.2.2.2.2.2]] := by
  unfold lccRd at h
  split at h
  · injection h with h; subst h; exact ⟨rfl, rfl⟩
  · cases h
def lccS : WSpec := ⟨Cab × Cab, fun x => [.agg [iv .i64 x.1.1, .imm (.string x.1.2.1), iv .i64 x.1.2.2.1, .imm (.string x.1.2.2.2.1), iv .i64 x.1.2.2.2.2], .c (.ptr 0 0)], fun x => [.var [iv .i64 x.2.1, .imm (.string x.2.2.1), iv .i64 x.2.2.2.1, .imm (.string x.2.2.2.2.1), iv .i64 x.2.2.2.2.2]], lccRd,
  fun x => (some ((fun _ => True) x.2), .cell (bv (toB x.2 x.1)), [some (.var [iv .i64 x.2.1, .imm (.string x.2.2.1), iv .i64 x.2.2.2.1, .imm (.string x.2.2.2.2.1), iv .i64 x.2.2.2.2.2])], [])⟩
theorem lcc_ok : GoodF Tryz.prog 52 lccS.spec := by
  have hT := tab_ok (fs := []) tree_ok
  have hP : SpecsOk Tryz.prog (tab tree []) := specs_nil
  refine lccS.good (fn := Tryz.f52) hT hP Tryz.func52 (by kernel_rfl) rfl (fun _ _ _ h => lccRd_ok h) fun (x : Cab × Cab) hq => ?_
  have hq : (fun _ => True) x.2 := hq _ rfl
  repeat' first
    | (refine Go.mk ?_; conv => whnf)
    | refine Need.go ?_ ?_
    | refine NilG.go (fun _ => ?_) (fun _ => ?_)
    | refine Br.dec (fun _ => ?_) (fun _ => ?_)
    | refine Br.go (fun _ => ?_) (fun _ => ?_)
    | refine draw_go hT hP mixed ?_
    | refine round_go hT hP ?_
  all_goals clear hT hP
  · rename_i g
    have g : x.1.2.2.1 = x.2.2.2.1 := g
    refine .mk [] [0] _ rfl rfl rfl rfl rfl rfl (imm_bool ?_)
    show _ = toB x.2 x.1
    unfold toB
    rw [decide_eq_true g]
  · rename_i g
    have g : ¬ x.1.2.2.1 = x.2.2.2.1 := g
    refine .mk [] [0] _ rfl rfl rfl rfl rfl rfl (imm_bool ?_)
    show _ = toB x.2 x.1
    unfold toB
    rw [decide_eq_false g]; rfl

structure lcX where
  l : List Cab
  d : Cab
def lcRd : List V1 → List Blk → Option lcX := fun a b => match a, b with
  | [.c (.ro (.pair (.int .i64) (.pair .str (.pair (.int .i64) (.pair .str (.int .i64))))) l), .c (.fn 52 [0])], [.var [.imm (.int .i64 cf), .imm (.string co), .imm (.int .i64 ct), .imm (.string ci), .imm (.int .i64 cd)]] => some ⟨l, (cf, co, ct, ci, cd)⟩
  | _, _ => none
theorem lcRd_ok {a : List V1} {b : List Blk} {x : lcX} (h : lcRd a b = some x) : a = [.c (.ro CabT x.l), .c (.fn 52 [0])] ∧ b = [.var [iv .i64 x.d.1, .imm (.string x.d.2.1), iv .i64 x.d.2.2.1, .imm (.string x.d.2.2.2.1), iv .i64 x.d.2.2.2.2]] := by
  unfold lcRd at h
  split at h
  · injection h with h; subst h; exact ⟨rfl, rfl⟩
  · cases h
def lciS : WSpec := ⟨lcX, fun x => [.c (.ro CabT x.l), .c (.fn 52 [0])], fun x => [.var [iv .i64 x.d.1, .imm (.string x.d.2.1), iv .i64 x.d.2.2.1, .imm (.string x.d.2.2.2.1), iv .i64 x.d.2.2.2.2]], lcRd,
  fun x => (some (x.l.length ≤ 4611686018427387904 ∧ (fun _ => True) x.d), I (fstI (toB x.d) x.l), [some (.var [iv .i64 x.d.1, .imm (.string x.d.2.1), iv .i64 x.d.2.2.1, .imm (.string x.d.2.2.2.1), iv .i64 x.d.2.2.2.2])], [])⟩
theorem lci_ok : GoodF Tryz.prog 99 lciS.spec := by
  have hT := tab_ok (fs := [(52, lccS.spec)]) tree_ok
  have hP : SpecsOk Tryz.prog (tab tree [(52, lccS.spec)]) := specs_cons lcc_ok specs_nil
  refine lciS.good (fn := Tryz.f99) hT hP Tryz.func99 (by kernel_rfl) rfl (fun _ _ _ h => lcRd_ok h) fun (x : lcX) hq => ?_
  obtain ⟨hl, hq⟩ : x.l.length ≤ 4611686018427387904 ∧ (fun _ => True) x.d := hq _ rfl
  obtain ⟨l, d⟩ := x
  have hl : l.length ≤ 4611686018427387904 := hl
  repeat' first
    | (refine Go.mk ?_; conv => whnf)
    | refine Need.go ?_ ?_
    | refine NilG.go (fun _ => ?_) (fun _ => ?_)
    | refine Br.dec (fun _ => ?_) (fun _ => ?_)
    | refine Br.go (fun _ => ?_) (fun _ => ?_)
    | refine draw_go hT hP mixed ?_
    | refine round_go hT hP ?_
  refine up_go hT hP (A := Unit) l.length (fun i _ => St.mk [.cell (.ro CabT l), .cell (.fn 52 [0]), .dead, .dead, .dead, .dead, .dead, I l.length, I i, .dead, .dead, .dead, .dead, .dead, .dead, .dead, .dead, .dead, .dead] [some (.var [iv .i64 d.1, .imm (.string d.2.1), iv .i64 d.2.2.1, .imm (.string d.2.2.2.1), iv .i64 d.2.2.2.2])])
    (fun k _ => fstG (toB d) (l.drop k) k = fstI (toB d) l) () (Le.mk [] [0] rfl rfl rfl ?_) rfl fun k _ hk hi => ?_
  · repeat' first | exact trivial | exact ⟨rfl, rfl⟩ | refine And.intro ?_ ?_
  repeat' first
    | (refine Go.mk ?_; conv => whnf)
    | refine Need.go ?_ ?_
    | refine NilG.go (fun _ => ?_) (fun _ => ?_)
    | refine Br.dec (fun _ => ?_) (fun _ => ?_)
    | refine Br.go (fun _ => ?_) (fun _ => ?_)
    | refine draw_go hT hP mixed ?_
    | refine round_go hT hP ?_
  all_goals clear hT hP
  · rename_i g1
    have g1 : (k : Int) < (l.length : Int) := g1
    show 0 ≤ (k : Int) ∧ (k : Int) < (l.length : Int)
    omega
  · first | exact hq | exact trivial
  · rename_i g1 g2
    have g1 : (k : Int) < (l.length : Int) := g1
    exact .mk [] [0] _ rfl rfl rfl rfl rfl rfl (imm_int (fst_hit (dflt CabT) (by omega) g2 hi))
  · rename_i g1 g2
    have g1 : (k : Int) < (l.length : Int) := g1
    have hp : ¬ toB d (l.getD k (dflt CabT)) = true := by
      have g2 : toB d (l.getD k (dflt CabT)) = false := g2
      rw [g2]; decide
    apply Exists.intro
    apply Exists.intro ()
    refine And.intro (And.intro ?lt269 (And.intro ?ei269 ?inv269)) (Le.mk [] [0] rfl rfl ?hh269 ?ht269)
    case hh269 => exact rfl
    case ht269 => repeat' first | exact trivial | exact ⟨rfl, rfl⟩ | refine And.intro ?_ ?_
    case lt269 => omega
    case ei269 => exact up_i (by omega)
    exact fst_miss (dflt CabT) (by omega) hp hi
  · rename_i g1
    have g1 : ¬ (k : Int) < (l.length : Int) := g1
    exact .mk [] [0] _ rfl rfl rfl rfl rfl rfl (imm_int (fst_none (by omega) hi))

def lctS : WSpec := ⟨lcX, fun x => [.c (.ro CabT x.l), .c (.fn 52 [0])], fun x => [.var [iv .i64 x.d.1, .imm (.string x.d.2.1), iv .i64 x.d.2.2.1, .imm (.string x.d.2.2.2.1), iv .i64 x.d.2.2.2.2]], lcRd,
  fun x => (some (x.l.length ≤ 4611686018427387904 ∧ (fun _ => True) x.d), .cell (bv (x.l.any (toB x.d))), [some (.var [iv .i64 x.d.1, .imm (.string x.d.2.1), iv .i64 x.d.2.2.1, .imm (.string x.d.2.2.2.1), iv .i64 x.d.2.2.2.2])], [])⟩
theorem lct_ok : GoodF Tryz.prog 51 lctS.spec := by
  have hT := tab_ok (fs := [(99, lciS.spec)]) tree_ok
  have hP : SpecsOk Tryz.prog (tab tree [(99, lciS.spec)]) := specs_cons lci_ok specs_nil
  refine lctS.good (fn := Tryz.f51) hT hP Tryz.func51 (by kernel_rfl) rfl (fun _ _ _ h => lcRd_ok h) fun (x : lcX) hq => ?_
  have hq : x.l.length ≤ 4611686018427387904 ∧ (fun _ => True) x.d := hq _ rfl
  obtain ⟨l, d⟩ := x
  repeat' first
    | (refine Go.mk ?_; conv => whnf)
    | refine Need.go ?_ ?_
    | refine NilG.go (fun _ => ?_) (fun _ => ?_)
    | refine Br.dec (fun _ => ?_) (fun _ => ?_)
    | refine Br.go (fun _ => ?_) (fun _ => ?_)
    | refine draw_go hT hP mixed ?_
    | refine round_go hT hP ?_
  all_goals clear hT hP
  · first | exact hq | exact trivial
  · exact .mk [] [0] _ rfl rfl rfl rfl rfl rfl (imm_bool (fst_any (toB d) l))

def cabE (l : List Nod) (c : Cab) : Int :=
  if c.1 < 0 ∨ c.1 ≥ (l.length : Int) ∨ c.2.2.1 < 0 ∨ c.2.2.1 ≥ (l.length : Int) then 4 else if ¬ (hasS l c.1 c.2.1 = true ∧ hasS l c.2.2.1 c.2.2.2.1 = true) then 8
  else if c.2.2.2.2 < 1 ∨ c.2.2.2.2 > 1000 then 1 else 0
def cabAtE (l : List Nod) (cs : List Cab) (k : Nat) : Int :=
  if cabE l (cs.getD k (dflt CabT)) ≠ 0 then cabE l (cs.getD k (dflt CabT)) else if (cs.take k).any (toB (cs.getD k (dflt CabT))) = true then 16 else 0
def linkE (l : List Nod) (cs : List Cab) : Int :=
  if l.length > 4 ∨ cs.length > 12 then 2 else if errL (nodeE (l.getD 0 (dflt NodeT)).2.1.1) l ≠ 0 then errL (nodeE (l.getD 0 (dflt NodeT)).2.1.1) l else errL (cabAtE l cs) (List.range cs.length)

end Go.Proofs.YtofgbclopbmlcaaGreat

/- A text in a list of texts. -/
namespace Go.Proofs.YtofgbclopbmlcaaGreat
open Go.Fw
set_option linter.unusedVariables false
set_option linter.unusedSimpArgs false
set_option linter.constructorNameAsVariable false
set_option maxRecDepth 100000

def sIdxS : PSpec := ⟨[⟨false, .sl .str⟩, gStr], fun (l, v, _) => (some (List.length l ≤ 4611686018427387904), I (fstI (strEq v) l), [])⟩
theorem sIdx_ok : GoodF Tryz.prog 104 sIdxS.spec := by
  have hT := tab_ok (fs := []) tree_ok
  have hP : SpecsOk Tryz.prog (tab tree []) := specs_nil
  refine sIdxS.good (fn := Tryz.f104) hT hP Tryz.func104 (by kernel_rfl) rfl fun (l : List ByteArray) (v : ByteArray) hq => ?_
  have hl : l.length ≤ 4611686018427387904 := hq _ rfl
  clear hq
  repeat' first
    | (refine Go.mk ?_; conv => whnf)
    | refine Need.go ?_ ?_
    | refine NilG.go (fun _ => ?_) (fun _ => ?_)
    | refine Br.dec (fun _ => ?_) (fun _ => ?_)
    | refine Br.go (fun _ => ?_) (fun _ => ?_)
    | refine draw_go hT hP mixed ?_
    | refine round_go hT hP ?_
  refine up_go hT hP (A := Unit) l.length (fun i _ => St.mk [.cell (.ro .str l), .cell (.imm (.string v)), .dead, .dead, .dead, .dead, .dead, I l.length, I i, .dead, .dead, .dead, .dead, .dead, .dead, .dead, .dead, .dead, .dead] [])
    (fun k _ => fstG (strEq v) (l.drop k) k = fstI (strEq v) l) () (Le.mk [] [] rfl rfl rfl ?_) rfl fun k _ hk hi => ?_
  · repeat' first | exact trivial | exact ⟨rfl, rfl⟩ | refine And.intro ?_ ?_
  repeat' first
    | (refine Go.mk ?_; conv => whnf)
    | refine Need.go ?_ ?_
    | refine NilG.go (fun _ => ?_) (fun _ => ?_)
    | refine Br.dec (fun _ => ?_) (fun _ => ?_)
    | refine Br.go (fun _ => ?_) (fun _ => ?_)
    | refine draw_go hT hP mixed ?_
    | refine round_go hT hP ?_
  all_goals clear hT hP
  · rename_i g1
    have g1 : (k : Int) < (l.length : Int) := g1
    show 0 ≤ (k : Int) ∧ (k : Int) < (l.length : Int)
    omega
  · rename_i g1 g2
    have g1 : (k : Int) < (l.length : Int) := g1
    exact .mk [] [] _ rfl rfl rfl rfl rfl rfl (imm_int (fst_hit (dflt .str) (by omega) g2 hi))
  · rename_i g1 g2
    have g1 : (k : Int) < (l.length : Int) := g1
    have hp : ¬ strEq v (l.getD k (dflt .str)) = true := by
      have g2 : strEq v (l.getD k (dflt .str)) = false := g2
      rw [g2]; decide
    apply Exists.intro
    apply Exists.intro ()
    refine And.intro (And.intro ?lt49 (And.intro ?ei49 ?inv49)) (Le.mk [] [] rfl rfl ?hh49 ?ht49)
    case hh49 => exact rfl
    case ht49 => repeat' first | exact trivial | exact ⟨rfl, rfl⟩ | refine And.intro ?_ ?_
    case lt49 => omega
    case ei49 => exact up_i (by omega)
    exact fst_miss (dflt .str) (by omega) hp hi
  · rename_i g1
    have g1 : ¬ (k : Int) < (l.length : Int) := g1
    exact .mk [] [] _ rfl rfl rfl rfl rfl rfl (imm_int (fst_none (by omega) hi))
def sHasS : PSpec := ⟨[⟨false, .sl .str⟩, gStr], fun (l, v, _) => (some (List.length l ≤ 4611686018427387904), .cell (bv (l.any (strEq v))), [])⟩
theorem sHas_ok : GoodF Tryz.prog 55 sHasS.spec := by
  have hT := tab_ok (fs := [(104, sIdxS.spec)]) tree_ok
  have hP : SpecsOk Tryz.prog (tab tree [(104, sIdxS.spec)]) := specs_cons sIdx_ok specs_nil
  refine sHasS.good (fn := Tryz.f55) hT hP Tryz.func55 (by kernel_rfl) rfl fun (l : List ByteArray) (v : ByteArray) hq => ?_
  have hl : l.length ≤ 4611686018427387904 := hq _ rfl
  clear hq
  repeat' first
    | (refine Go.mk ?_; conv => whnf)
    | refine Need.go ?_ ?_
    | refine NilG.go (fun _ => ?_) (fun _ => ?_)
    | refine Br.dec (fun _ => ?_) (fun _ => ?_)
    | refine Br.go (fun _ => ?_) (fun _ => ?_)
    | refine draw_go hT hP mixed ?_
    | refine round_go hT hP ?_
  all_goals clear hT hP
  · exact hl
  · exact .mk [] [] _ rfl rfl rfl rfl rfl rfl (imm_bool (fst_any (strEq v) l))

end Go.Proofs.YtofgbclopbmlcaaGreat

/- bakeref1.StateErr. -/
namespace Go.Proofs.YtofgbclopbmlcaaGreat
open Go.Fw
set_option linter.unusedVariables false
set_option linter.unusedSimpArgs false
set_option linter.constructorNameAsVariable false
set_option maxRecDepth 100000

theorem is_nm {bc : List Cv} {ns : List ByteArray} {s : ByteArray} (hn : namesL bc = ns) (h : (!ns.any (strEq s)) = false) : strEq s cpuStr = true ∨ bc.any (nmB s) = true := (namesL_any bc s).1 (by rw [hn]; simpa using h)
theorem no_nm {bc : List Cv} {ns : List ByteArray} {s : ByteArray} (hn : namesL bc = ns) (h : (!ns.any (strEq s)) = true) : ¬ (strEq s cpuStr = true ∨ bc.any (nmB s) = true) := fun hh => by
  have := (namesL_any bc s).2 hh
  rw [hn] at this; rw [this] at h; cases h
set_option maxHeartbeats 4000000 in
theorem rState_ok : GoodF Tryz.prog 14 mcheckS.spec := by
  have hT := tab_ok (fs := [(18, bcheckS.spec), (55, sHasS.spec)]) tree_ok
  have hP : SpecsOk Tryz.prog (tab tree [(18, bcheckS.spec), (55, sHasS.spec)]) := specs_cons rBoardErr_ok (specs_cons sHas_ok specs_nil)
  refine mcheckS.good (fn := Tryz.f14) hT hP Tryz.func14 (by kernel_rfl) rfl fun (b : Bd) (m : Mach) (l : List Inp) hq => ?_
  obtain ⟨hck, hln⟩ : stP b m l := hq _ rfl
  clear hq
  have hBE : stateE b m l = if boardE b ≠ 0 then boardE b else if m.2.2.1.length ≠ b.2.2.1.length then 3
    else if m.1 < 0 ∨ m.1 > 1099511627776 then 1 else if l.length > 500 then 2 else errL (inpE b.2.2.1 l) (List.range l.length) := rfl
  have hcl : b.2.2.1.length * 64 ≤ 140737488351232 := hck.1.1.1
  obtain ⟨bn, ⟨un, ui, ur, uq, um⟩, bc, bw⟩ := b
  obtain ⟨tm, ⟨r, op, at_, nmi⟩, ds, bd, ba, bdt⟩ := m
  have hcl : bc.length * 64 ≤ 140737488351232 := hcl
  have hBE : stateE (bn, (un, ui, ur, uq, um), bc, bw) (tm, (r, op, at_, nmi), ds, bd, ba, bdt) l = if boardE (bn, (un, ui, ur, uq, um), bc, bw) ≠ 0 then boardE (bn, (un, ui, ur, uq, um), bc, bw) else if ds.length ≠ bc.length then 3
    else if tm < 0 ∨ tm > 1099511627776 then 1 else if l.length > 500 then 2 else errL (inpE bc l) (List.range l.length) := hBE
  repeat' first
    | (refine Go.mk ?_; conv => whnf)
    | refine Need.go ?_ ?_
    | refine NilG.go (fun _ => ?_) (fun _ => ?_)
    | refine Br.dec (fun _ => ?_) (fun _ => ?_)
    | refine Br.go (fun _ => ?_) (fun _ => ?_)
    | refine draw_go hT hP mixed ?_
    | refine round_go hT hP ?_
  all_goals (try dsimp only [castL_eq] at *)
  · exact hck
  · rename_i g
    have g := nz_of (x := boardE (bn, (un, ui, ur, uq, um), bc, bw)) g
    refine .mk [] [] _ rfl rfl rfl rfl rfl rfl (imm_int ?_)
    rw [hBE, if_pos g]
  · rename_i g0 g
    have g0 := ze_of (x := boardE (bn, (un, ui, ur, uq, um), bc, bw)) g0
    have g := neN g
    refine .mk [] [] _ rfl rfl rfl rfl rfl rfl (imm_int ?_)
    rw [hBE, if_neg (fun h => h g0), if_pos g]
  · rename_i g0 g1 g2
    have g0 := ze_of (x := boardE (bn, (un, ui, ur, uq, um), bc, bw)) g0
    have g1 := eqN g1
    have g2 : tm < 0 := g2
    refine .mk [] [] _ rfl rfl rfl rfl rfl rfl (imm_int ?_)
    rw [hBE, if_neg (fun h => h g0), if_neg (fun h => h g1), if_pos (.inl g2)]
  · rename_i g0 g1 g2 g3
    have g0 := ze_of (x := boardE (bn, (un, ui, ur, uq, um), bc, bw)) g0
    have g1 := eqN g1
    have g3 : tm > 1099511627776 := g3
    refine .mk [] [] _ rfl rfl rfl rfl rfl rfl (imm_int ?_)
    rw [hBE, if_neg (fun h => h g0), if_neg (fun h => h g1), if_pos (.inr g3)]
  · rename_i g0 g1 g2 g3 g4
    have g0 := ze_of (x := boardE (bn, (un, ui, ur, uq, um), bc, bw)) g0
    have g1 := eqN g1
    have g2 : ¬ tm < 0 := g2
    have g3 : ¬ tm > 1099511627776 := g3
    have g4 : (l.length : Int) > 500 := g4
    refine .mk [] [] _ rfl rfl rfl rfl rfl rfl (imm_int ?_)
    rw [hBE, if_neg (fun h => h g0), if_neg (fun h => h g1), if_neg (by omega), if_pos (by omega)]
  rename_i g0 g1 g2 g3 g4
  have g0 := ze_of (x := boardE (bn, (un, ui, ur, uq, um), bc, bw)) g0
  have g1 := eqN g1
  have g2 : ¬ tm < 0 := g2
  have g3 : ¬ tm > 1099511627776 := g3
  have g4 : ¬ (l.length : Int) > 500 := g4
  rw [if_neg (fun h => h g0), if_neg (fun h => h g1), if_neg (by omega), if_neg (by omega)] at hBE
  refine up_go hT hP (A := List ByteArray) bc.length (fun i o => St.mk [.dead, .dead, .cell (.ro InpT l), .dead, .dead, .dead, .dead, .dead, .cell (.own 0), .dead, .dead, .dead, .dead, .dead, .dead, .dead, .dead, .dead, .dead, .dead, .dead, .dead, .dead, .dead, .dead, .dead, .dead, .dead, .dead, .dead, .dead, .dead, .dead, .dead, .dead, .dead, .dead, .dead, .cell (.ro ChipT bc), I bc.length, I i, .dead, .dead, .dead, .dead, .dead, .dead, .dead, .dead, .dead, .dead, .dead, .dead, .dead, .dead, .dead, .dead, .dead, .dead, .dead, .dead, .dead, .dead, .dead, .dead, .dead, .dead, .dead, .dead, .dead, .dead, .dead, .dead, .dead, .dead, .dead]
      [some (.arr .str o)])
    (fun k o => o = namesL (bc.take k)) [cpuStr] (Le.mk [] [2] rfl rfl ?_ ?_) rfl fun k o hk hi => ?_
  · exact rfl
  · repeat' first | exact trivial | exact ⟨rfl, rfl⟩ | refine And.intro ?_ ?_
  repeat' first
    | (refine Go.mk ?_; conv => whnf)
    | refine Need.go ?_ ?_
    | refine NilG.go (fun _ => ?_) (fun _ => ?_)
    | refine Br.dec (fun _ => ?_) (fun _ => ?_)
    | refine Br.go (fun _ => ?_) (fun _ => ?_)
    | refine draw_go hT hP mixed ?_
    | refine round_go hT hP ?_
  all_goals (try dsimp only [castL_eq] at *)
  · rename_i g
    have g : (k : Int) < (bc.length : Int) := g
    show 0 ≤ (k : Int) ∧ (k : Int) < (bc.length : Int)
    omega
  · rename_i g
    have g : (k : Int) < (bc.length : Int) := g
    have hz : o.length ≤ bc.length + 1 := by rw [hi, namesL, List.length_cons, List.length_map, List.length_take]; omega
    show (o.length + 1) * 16 ≤ 140737488355328
    omega
  · rename_i g
    have g : (k : Int) < (bc.length : Int) := g
    apply Exists.intro
    apply Exists.intro _
    refine And.intro (And.intro ?lt100 (And.intro ?ei100 ?inv100)) (Le.mk [] [3] rfl rfl ?hh100 ?ht100)
    case hh100 => exact rfl
    case ht100 => repeat' first | exact trivial | exact ⟨rfl, rfl⟩ | refine And.intro ?_ ?_
    case lt100 => omega
    case ei100 => exact up_i (by omega)
    rw [hi]
    exact (namesL_take (show k < bc.length by omega)).symm
  rename_i gg
  have gg : ¬ (k : Int) < (bc.length : Int) := gg
  have e : o = namesL bc := by rw [hi, List.take_of_length_le (by omega)]
  subst e
  clear hi hk gg
  have hnl : (namesL bc).length ≤ 4611686018427387904 := by rw [namesL, List.length_cons, List.length_map]; omega
  generalize hn : namesL bc = ns at *
  refine up_go hT hP (A := Unit) l.length (fun i _ => St.mk [.dead, .dead, .cell (.ro InpT l), .dead, .dead, .dead, .dead, .dead, .cell (.own 0), .dead, .dead, .dead, .dead, .dead, .dead, .dead, .dead, .dead, .dead, .dead, .dead, .dead, .dead, .dead, .dead, .dead, .dead, .dead, .dead, .dead, .dead, .dead, .dead, .dead, .dead, .dead, .dead, .dead, .dead, .dead, .dead, .dead, .dead, .dead, .dead, .dead, .dead, .dead, .dead, .dead, .cell (.ro InpT l), I l.length, I i, .dead, .dead, .dead, .dead, .dead, .dead, .dead, .dead, .dead, .dead, .dead, .dead, .dead, .dead, .dead, .dead, .dead, .dead, .dead, .dead, .dead, .dead, .dead]
      [some (.arr .str ns)])
    (fun k _ => errL (inpE bc l) ((List.range l.length).drop k) = errL (inpE bc l) (List.range l.length)) () (Le.mk [] [0] rfl rfl ?_ ?_) rfl fun k _ hk hi => ?_
  · exact rfl
  · repeat' first | exact trivial | exact ⟨rfl, rfl⟩ | refine And.intro ?_ ?_
  have hs := fun h => rangeE_step (f := inpE bc l) (k := k) h hi
  have hp : 0 < k → (IntKind.i64.wrap ((k : Int) - 1)) = ((k - 1 : Nat) : Int) := fun h => by rw [w64 (by omega) (by omega)]; omega
  have hA : inpE bc l k = if 0 < k ∧ (l.getD k (dflt InpT)).1 < (l.getD (k - 1) (dflt InpT)).1 then 9
    else if strEq (l.getD k (dflt InpT)).2.1 cpuStr = true ∨ bc.any (nmB (l.getD k (dflt InpT)).2.1) = true then 0 else 4 := rfl
  clear g0 g1 g2 g3 hck
  repeat' first
    | (refine Go.mk ?_; conv => whnf)
    | refine Need.go ?_ ?_
    | refine NilG.go (fun _ => ?_) (fun _ => ?_)
    | refine Br.dec (fun _ => ?_) (fun _ => ?_)
    | refine Br.go (fun _ => ?_) (fun _ => ?_)
    | refine draw_go hT hP mixed ?_
    | refine round_go hT hP ?_
  all_goals (try dsimp only [castL_eq] at *)
  all_goals clear hT hP
  · rename_i g
    have g : (k : Int) < (l.length : Int) := by assumption
    show 0 ≤ (k : Int) ∧ (k : Int) < (l.length : Int)
    omega
  · rename_i g g2
    have g : (k : Int) < (l.length : Int) := by assumption
    have g2 : (k : Int) > 0 := by assumption
    show 0 ≤ IntKind.i64.wrap ((k : Int) - 1) ∧ IntKind.i64.wrap ((k : Int) - 1) < (l.length : Int)
    rw [hp (by omega)]; omega
  · rename_i g g2 g3
    have g : (k : Int) < (l.length : Int) := g
    have g2 : (k : Int) > 0 := g2
    have g3 : (l.getD (IntKind.i64.wrap ((k : Int) - 1)).toNat (dflt InpT)).1 > (l.getD k (dflt InpT)).1 := g3
    rw [hp (by omega)] at g3
    have g3 : (l.getD k (dflt InpT)).1 < (l.getD (k - 1) (dflt InpT)).1 := g3
    rw [if_pos ⟨by omega, g3⟩] at hA
    refine .mk [] [] _ rfl rfl rfl rfl rfl rfl (imm_int ?_)
    rw [hBE, ← (hs (by omega)).1 (by rw [hA]; decide), hA]
  · exact hnl
  · rename_i g g2 g3 g5
    have g : (k : Int) < (l.length : Int) := g
    have g2 : (k : Int) > 0 := g2
    have g3 : ¬ (l.getD (IntKind.i64.wrap ((k : Int) - 1)).toNat (dflt InpT)).1 > (l.getD k (dflt InpT)).1 := g3
    rw [hp (by omega)] at g3
    have g3 : ¬ (l.getD k (dflt InpT)).1 < (l.getD (k - 1) (dflt InpT)).1 := g3
    have g5 : (!ns.any (strEq (l.getD k (dflt InpT)).2.1)) = true := g5
    rw [if_neg (fun h => g3 h.2), if_neg (no_nm hn g5)] at hA
    refine .mk [] [] _ rfl rfl rfl rfl rfl rfl (imm_int ?_)
    rw [hBE, ← (hs (by omega)).1 (by rw [hA]; decide), hA]
  · rename_i g g2 g3 g5
    have g : (k : Int) < (l.length : Int) := g
    have g2 : (k : Int) > 0 := g2
    have g3 : ¬ (l.getD (IntKind.i64.wrap ((k : Int) - 1)).toNat (dflt InpT)).1 > (l.getD k (dflt InpT)).1 := g3
    rw [hp (by omega)] at g3
    have g3 : ¬ (l.getD k (dflt InpT)).1 < (l.getD (k - 1) (dflt InpT)).1 := g3
    have g5 : (!ns.any (strEq (l.getD k (dflt InpT)).2.1)) = false := g5
    rw [if_neg (fun h => g3 h.2), if_pos (is_nm hn g5)] at hA
    apply Exists.intro
    apply Exists.intro ()
    refine And.intro (And.intro ?lt173 (And.intro ?ei173 ?inv173)) (Le.mk [] [0] rfl rfl ?hh173 ?ht173)
    case hh173 => exact rfl
    case ht173 => repeat' first | exact trivial | exact ⟨rfl, rfl⟩ | refine And.intro ?_ ?_
    case lt173 => omega
    case ei173 => exact up_i (by omega)
    exact (hs (by omega)).2 hA
  · exact hnl
  · rename_i g g2 g5
    have g : (k : Int) < (l.length : Int) := g
    have g2 : ¬ (k : Int) > 0 := g2
    have g5 : (!ns.any (strEq (l.getD k (dflt InpT)).2.1)) = true := g5
    rw [if_neg (fun h => by have := h.1; omega), if_neg (no_nm hn g5)] at hA
    refine .mk [] [] _ rfl rfl rfl rfl rfl rfl (imm_int ?_)
    rw [hBE, ← (hs (by omega)).1 (by rw [hA]; decide), hA]
  · rename_i g g2 g5
    have g : (k : Int) < (l.length : Int) := g
    have g2 : ¬ (k : Int) > 0 := g2
    have g5 : (!ns.any (strEq (l.getD k (dflt InpT)).2.1)) = false := g5
    rw [if_neg (fun h => by have := h.1; omega), if_pos (is_nm hn g5)] at hA
    apply Exists.intro
    apply Exists.intro ()
    refine And.intro (And.intro ?lt194 (And.intro ?ei194 ?inv194)) (Le.mk [] [0] rfl rfl ?hh194 ?ht194)
    case hh194 => exact rfl
    case ht194 => repeat' first | exact trivial | exact ⟨rfl, rfl⟩ | refine And.intro ?_ ?_
    case lt194 => omega
    case ei194 => exact up_i (by omega)
    exact (hs (by omega)).2 hA
  · rename_i g
    have g : ¬ (k : Int) < (l.length : Int) := g
    refine .mk [] [] _ rfl rfl rfl rfl rfl rfl (imm_int ?_)
    rw [hBE, rangeE_end (by omega) hi]

end Go.Proofs.YtofgbclopbmlcaaGreat

