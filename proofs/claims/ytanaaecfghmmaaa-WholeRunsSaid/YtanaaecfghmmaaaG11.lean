/- Part 11 of the proof: WholeLaw Fw32 TellW WholeW. No statement is handed in here; conditions: none. -/
import Derived.Test.YtanaaecfghmmaaaG8
import Derived.Test.YtanaaecfghmmaaaG10
import Derived.Carry
import Derived.OpenShut
import Derived.Test.YtanaaecfghmmaaaG7
/- bakelaw1.WholeRuns answers true, whatever it is given. -/
namespace Go.Proofs.Ytanaaecfghmmaaa
open Go.Fw
set_option linter.unusedVariables false
set_option linter.unusedSimpArgs false
set_option linter.constructorNameAsVariable false
set_option maxRecDepth 100000

theorem denB_iff {x y : Bsv} : denEq BusT x y = true ↔ x = y := ⟨fun h => denEq_eq (u := BusT) rfl h, fun h => by subst h; exact denEq_self rfl⟩
noncomputable def eqBusS : PSpec := ⟨[⟨false, .sl BusT⟩, ⟨false, .sl BusT⟩], fun (l, m, _) => (some (List.length l ≤ 4611686018427387904), .cell (bv (eqB (α := List Bsv) l m)), [])⟩
theorem eqBus_ok : GoodF Try.prog 40 eqBusS.spec := by
  have hT := tab_ok (fs := []) tree_ok
  have hP : SpecsOk Try.prog (tab tree []) := specs_nil
  refine eqBusS.good (fn := Try.f40) hT hP Try.func40 (by kernel_rfl) rfl fun (l m : List Bsv) hq => ?_
  have hl : l.length ≤ 4611686018427387904 := hq _ rfl
  clear hq
  repeat' first
    | (refine Go.mk ?_; conv => whnf)
    | refine Need.go ?_ ?_
    | refine NilG.go (fun _ => ?_) (fun _ => ?_)
    | refine Br.dec (fun _ => ?_) (fun _ => ?_)
    | refine Br.go (fun _ => ?_) (fun _ => ?_)
    | refine draw_go hT hP mixed ?_
    | refine round_go hT hP ?_
  · rename_i h
    have h : (l.length : Int) ≠ (m.length : Int) := by simpa using h
    exact .mk [] [] _ rfl rfl rfl rfl rfl rfl (imm_bool (eqB_f (fun e => h (by rw [e]))).symm)
  rename_i h
  have h : (l.length : Int) = (m.length : Int) := by simpa using h
  have hm : l.length = m.length := by omega
  refine up_go hT hP (A := Unit) l.length (fun i _ => St.mk [.cell (.ro BusT l), .cell (.ro BusT m), .dead, .dead, .dead, .dead, .dead, .dead, .dead, .dead, .dead, .dead, I (l.length : Int), I i, .dead, .dead, .dead, .dead, .dead, .dead, .dead, .dead, .dead, .dead, .dead, .dead] [])
    (fun k _ => l.take k = m.take k) () (Le.mk [] [] rfl rfl rfl ?_) (by simp) fun k _ hk hi => ?_
  · repeat' first | exact trivial | exact ⟨rfl, rfl⟩ | refine And.intro ?_ ?_
  repeat' first
    | (refine Go.mk ?_; conv => whnf)
    | refine Need.go ?_ ?_
    | refine NilG.go (fun _ => ?_) (fun _ => ?_)
    | refine Br.dec (fun _ => ?_) (fun _ => ?_)
    | refine Br.go (fun _ => ?_) (fun _ => ?_)
    | refine draw_go hT hP mixed ?_
    | refine round_go hT hP ?_
  all_goals clear hT hP
  all_goals first
    | (rename_i g1
       have g1 : (k : Int) < (l.length : Int) := g1
       first
         | (show 0 ≤ (k : Int) ∧ (k : Int) < (l.length : Int)
            omega)
         | (show 0 ≤ (k : Int) ∧ (k : Int) < (m.length : Int)
            omega))
    | (rename_i g1 h2
       have g1 : (k : Int) < (l.length : Int) := g1
       have h2 : (!denEq BusT (l.getD k (dflt BusT)) (m.getD k (dflt BusT))) = true := h2
       have hne : l.getD k (dflt BusT) ≠ m.getD k (dflt BusT) := fun e => by
         rw [denB_iff.2 e] at h2; cases h2
       exact .mk [] [] _ rfl rfl rfl rfl rfl rfl (imm_bool (eqB_f (ne_at (dflt BusT) hne)).symm))
    | (rename_i g1 h2
       have g1 : (k : Int) < (l.length : Int) := g1
       have h2 : (!denEq BusT (l.getD k (dflt BusT)) (m.getD k (dflt BusT))) = false := h2
       have he : l.getD k (dflt BusT) = m.getD k (dflt BusT) := denB_iff.1 (by simpa using h2)
       apply Exists.intro
       apply Exists.intro ()
       refine And.intro (And.intro ?lt62 (And.intro ?ei62 ?inv62)) (Le.mk [] [] rfl rfl ?hh62 ?ht62)
       case hh62 => exact rfl
       case ht62 => repeat' first | exact trivial | exact ⟨rfl, rfl⟩ | refine And.intro ?_ ?_
       case lt62 => omega
       case ei62 => exact up_i (by omega)
       exact take_eq (dflt BusT) (by omega) (by omega) hi he)
    | (rename_i g1
       have g1 : ¬ (k : Int) < (l.length : Int) := g1
       exact .mk [] [] _ rfl rfl rfl rfl rfl rfl (imm_bool (eqB_t (eq_take hm (by omega) hi)).symm))
    | skip

def timesS : PSpec := ⟨[⟨true, InsT⟩], fun (x, _) => (some (x = (0, ByteArray.empty, 0, [(0, 0, 0, [])])), .tup [I1 2, I1 2], [])⟩
theorem times0_ok : GoodF Try.prog 12 timesS.spec := by
  have hT := tab_ok (fs := []) tree_ok
  have hP : SpecsOk Try.prog (tab tree []) := specs_nil
  refine timesS.good (fn := Try.f12) hT hP Try.func12 (by kernel_rfl) rfl fun (x : Ins) hq => ?_
  obtain rfl : x = (0, ByteArray.empty, 0, [(0, 0, 0, [])]) := hq _ rfl
  clear hq
  repeat' first
    | (refine Go.mk ?_; conv => whnf)
    | refine Need.go ?_ ?_
    | refine NilG.go (fun _ => ?_) (fun _ => ?_)
    | refine Br.dec (fun _ => ?_) (fun _ => ?_)
    | refine Br.go (fun _ => ?_) (fun _ => ?_)
    | refine draw_go hT hP mixed ?_
    | refine round_go hT hP ?_
  refine loop_unroll 2 ?_
  repeat' first
    | (refine Go.mk ?_; conv => whnf)
    | refine Need.go ?_ ?_
    | refine NilG.go (fun _ => ?_) (fun _ => ?_)
    | refine Br.dec (fun _ => ?_) (fun _ => ?_)
    | refine Br.go (fun _ => ?_) (fun _ => ?_)
    | refine draw_go hT hP mixed ?_
    | refine round_go hT hP ?_
  all_goals (try exact of_decide_eq_true rfl)
  refine loop_unroll 1 ?_
  repeat' first
    | (refine Go.mk ?_; conv => whnf)
    | refine Need.go ?_ ?_
    | refine NilG.go (fun _ => ?_) (fun _ => ?_)
    | refine Br.dec (fun _ => ?_) (fun _ => ?_)
    | refine Br.go (fun _ => ?_) (fun _ => ?_)
    | refine draw_go hT hP mixed ?_
    | refine round_go hT hP ?_
  all_goals (try exact of_decide_eq_true rfl)
  all_goals exact .mk [] [] _ rfl rfl rfl rfl rfl rfl rfl
def wholesS : PSpec := ⟨[], fun _ => (none, .cell (bv true), [])⟩
theorem wholes_ok : GoodF Try.prog 9 wholesS.spec := by
  have hT := tab_ok (fs := [(12, timesS.spec)]) tree_ok
  have hP : SpecsOk Try.prog (tab tree [(12, timesS.spec)]) := specs_cons times0_ok specs_nil
  refine wholesS.good (fn := Try.f9) hT hP Try.func9 (by kernel_rfl) rfl fun _ => ?_
  repeat' first
    | (refine Go.mk ?_; conv => whnf)
    | refine Need.go ?_ ?_
    | refine NilG.go (fun _ => ?_) (fun _ => ?_)
    | refine Br.dec (fun _ => ?_) (fun _ => ?_)
    | refine Br.go (fun _ => ?_) (fun _ => ?_)
    | refine draw_go hT hP mixed ?_
    | refine round_go hT hP ?_
  all_goals first
    | exact of_decide_eq_true rfl
    | exact rfl
    | exact .mk [] [] _ rfl rfl rfl rfl rfl rfl rfl
    | skip
def storedS : PSpec := ⟨[gi], fun (n, _) => (none, .cell (.ptr 1 0), [.mp false (.int .i64) (.int .i64) [], .var [iv .i64 (land .i64 n 65535), .map 0]])⟩
theorem stored_ok : GoodF Try.prog 31 storedS.spec := by
  have hT := tab_ok (fs := []) tree_ok
  have hP : SpecsOk Try.prog (tab tree []) := specs_nil
  refine storedS.good (fn := Try.f31) hT hP Try.func31 (by kernel_rfl) rfl fun (n : Int) _ => ?_
  repeat' first
    | (refine Go.mk ?_; conv => whnf)
    | refine Need.go ?_ ?_
    | refine NilG.go (fun _ => ?_) (fun _ => ?_)
    | refine Br.dec (fun _ => ?_) (fun _ => ?_)
    | refine Br.go (fun _ => ?_) (fun _ => ?_)
    | refine draw_go hT hP mixed ?_
    | refine round_go hT hP ?_
  all_goals exact .mk [] [0, 1] _ rfl rfl rfl rfl rfl rfl rfl

def rx0 (c : Cpu) (k : Kor) (i : Bool) (s : Int) : RunSt := (wcK ⟨c, k, i, s, []⟩, wcM [] (wcB ⟨c, k, i, s, []⟩), [])
def rx (c : Cpu) (k : Kor) (i : Bool) (s : Int) : RunSt := runW c s 20 (rx0 c k i s)
theorem runW_len (c : Cpu) (s : Int) : ∀ (m : Nat) (z : RunSt), (runW c s m z).2.2.length ≤ z.2.2.length + m
  | 0, z => Nat.le_refl _
  | m + 1, (k, M, o) => by
    have e : ∀ x : Bsv, (o ++ [x]).length = o.length + 1 := fun x => by rw [List.length_append]; rfl
    unfold runW
    split
    · show (o ++ [_]).length ≤ o.length + (m + 1)
      rw [e]; omega
    · have := runW_len c s m (wcK ⟨c, k, false, s, M⟩, wcM M (wcB ⟨c, k, false, s, M⟩), o ++ [busV ⟨c, k, false, s, M⟩])
      have h2 := e (busV ⟨c, k, false, s, M⟩)
      show _ ≤ o.length + (m + 1)
      dsimp only at this
      omega
theorem rx_len (c : Cpu) (k : Kor) (i : Bool) (s : Int) : (rx c k i s).2.2.length ≤ 20 := by
  have := runW_len c s 20 (rx0 c k i s)
  have e : (rx0 c k i s).2.2.length = 0 := rfl
  unfold rx; omega
def wrsS : PSpec := ⟨[gCpu, gK, gB, gi], fun (c, k, i, n, _) => (some (tellP c k), .cell (bv true), [])⟩
set_option maxHeartbeats 4000000 in
theorem wrs_ok : GoodF Try.prog 7 wrsS.spec := by
  have hT := tab_ok (fs := [(9, wholesS.spec), (31, storedS.spec), (38, wcycS.spec), (32, wrefS.spec), (39, wrunS.spec), (40, eqBusS.spec)]) tree_ok
  have hP : SpecsOk Try.prog (tab tree [(9, wholesS.spec), (31, storedS.spec), (38, wcycS.spec), (32, wrefS.spec), (39, wrunS.spec), (40, eqBusS.spec)]) := specs_cons wholes_ok (specs_cons stored_ok (specs_cons wCycle_ok (specs_cons wRef_ok (specs_cons wRun_ok (specs_cons eqBus_ok specs_nil)))))
  refine wrsS.good (fn := Try.f7) hT hP Try.func7 (by kernel_rfl) rfl fun (c : Cpu) (k : Kor) (i : Bool) (n : Int) hq => ?_
  have hp : tellP c k := hq _ rfl
  clear hq
  obtain ⟨cn, ci, cr, cq, cm⟩ := c
  obtain ⟨r, op, at_, nm⟩ := k
  generalize hs : land .i64 n 65535 = s
  repeat' first
    | (refine Go.mk ?_; conv => whnf)
    | refine Need.go ?_ ?_
    | refine NilG.go (fun _ => ?_) (fun _ => ?_)
    | refine Br.dec (fun _ => ?_) (fun _ => ?_)
    | refine Br.go (fun _ => ?_) (fun _ => ?_)
    | refine draw_go hT hP mixed ?_
    | refine round_go hT hP ?_
  all_goals (try simp only [castL_eq] at *)
  all_goals (try dsimp only at *)
  · exact hp
  · exact hp
  · exfalso; rename_i h; rw [denEq_self rfl] at h; cases h; done
  · exfalso; rename_i h; rw [denEq_self rfl] at h; cases h; done
  · exact tellP_tell hp _ _
  subst hs
  have hn := rx_len (cn, ci, cr, cq, cm) (r, op, at_, nm) i (land .i64 n 65535)
  refine up_go hT hP (A := RunSt) 20 (fun j z => St.mk [.dead, .dead, .dead, .dead, .dead, .dead, .dead, .dead, .dead, .dead, .dead, .cell (.fn 32 [0, 3]), .cell (.ptr 4 0), .dead, .cell (.ptr 5 0), .dead, .cell (.own 6), .cell (.own 7), .dead, .dead, .dead, .dead, .dead, .dead, .dead, .dead, .dead, .dead, .dead, .dead, .dead, .dead, .dead, .dead, .dead, .dead, .dead, .dead, .dead, .dead, .dead, .dead, .dead, .dead, .dead, .dead, .dead, .dead, .dead, .dead, .dead, .dead, .dead, .dead, .dead, .dead, .dead, .dead, I j, .dead, .dead, .dead, .dead, .dead, .dead, .dead, .dead, .dead, .dead, .dead, .dead, .dead, .dead, .dead, .dead, .dead, .dead, .dead, .dead, .dead, .dead, .dead, .dead, .dead, .dead, .dead, .dead]
      [some (.var [.imm (.string cn), .ro InsT ci, .ro CycT cr, .ro CycT cq, .ro CycT cm]), some (.mp false (.int .i64) (.int .i64) z.2.1), some (.var [iv .i64 (land .i64 n 65535), .map 1]), some (.var [.ptr 2 0]),
       some (.var [.run .i64 9 (rx (cn, ci, cr, cq, cm) (r, op, at_, nm) i (land .i64 n 65535)).1.1, iv .i64 (rx (cn, ci, cr, cq, cm) (r, op, at_, nm) i (land .i64 n 65535)).1.2.1, iv .i64 (rx (cn, ci, cr, cq, cm) (r, op, at_, nm) i (land .i64 n 65535)).1.2.2.1, bv (rx (cn, ci, cr, cq, cm) (r, op, at_, nm) i (land .i64 n 65535)).1.2.2.2]),
       some (.var [.run .i64 9 z.1.1, iv .i64 z.1.2.1, iv .i64 z.1.2.2.1, bv z.1.2.2.2]), some (.arr BusT (rx (cn, ci, cr, cq, cm) (r, op, at_, nm) i (land .i64 n 65535)).2.2), some (.arr BusT z.2.2)])
    (fun j z => runW (cn, ci, cr, cq, cm) (land .i64 n 65535) (20 - j) z = rx (cn, ci, cr, cq, cm) (r, op, at_, nm) i (land .i64 n 65535) ∧ tellP (cn, ci, cr, cq, cm) z.1 ∧ z.2.2.length ≤ j)
    (rx0 (cn, ci, cr, cq, cm) (r, op, at_, nm) i (land .i64 n 65535)) (.trans (Le.nil 17 BusT rfl) (Le.mk [] [0, 4, 5, 6, 7, 9, 11, 12] rfl rfl ?_ ?_)) ⟨rfl, tellP_tell hp _ _, Nat.le_refl _⟩ fun j z hj hi => ?_
  · exact rfl
  · repeat' first | exact trivial | exact ⟨rfl, rfl⟩ | refine And.intro ?_ ?_
  generalize rx (cn, ci, cr, cq, cm) (r, op, at_, nm) i (land .i64 n 65535) = R at *
  obtain ⟨⟨r', op', at', n'⟩, M', o⟩ := z
  obtain ⟨hrun, hk, ho⟩ := hi
  obtain ⟨Rk, RM, Ro⟩ := R
  obtain ⟨R1, R2, R3, R4⟩ := Rk
  repeat' first
    | (refine Go.mk ?_; conv => whnf)
    | refine Need.go ?_ ?_
    | refine NilG.go (fun _ => ?_) (fun _ => ?_)
    | refine Br.dec (fun _ => ?_) (fun _ => ?_)
    | refine Br.go (fun _ => ?_) (fun _ => ?_)
    | refine draw_go hT hP mixed ?_
    | refine round_go hT hP ?_
  all_goals (try simp only [castL_eq] at *)
  all_goals (try dsimp only at *)
  all_goals clear hT hP
  · exact hk
  · show (o.length + 1) * 24 ≤ 140737488355328
    omega
  · show Ro.length ≤ 4611686018427387904
    omega
  · rename_i g1 g2 g9
    have g1 : (j : Int) < 20 := g1
    have h2 := runW_stop (s := land .i64 n 65535) (show j < 20 by omega) (c := (cn, ci, cr, cq, cm)) (k := (r', op', at', n')) (M := M') (o := o) (by unfold stopK; rw [decide_eq_true g2]; rfl)
    have e3 : (o ++ [busV ⟨(cn, ci, cr, cq, cm), (r', op', at', n'), false, land .i64 n 65535, M'⟩]) = Ro := congrArg (fun z : RunSt => z.2.2) (h2.symm.trans hrun)
    refine .mk [] [] _ rfl rfl rfl rfl rfl rfl (imm_bool ?_)
    show eqB (α := List Bsv) Ro (o ++ [busV ⟨(cn, ci, cr, cq, cm), (r', op', at', n'), false, land .i64 n 65535, M'⟩]) = true
    exact eqB_t e3.symm
  · rename_i g1 g2 g9
    exfalso
    have g1 : (j : Int) < 20 := g1
    have h2 := runW_stop (s := land .i64 n 65535) (show j < 20 by omega) (c := (cn, ci, cr, cq, cm)) (k := (r', op', at', n')) (M := M') (o := o) (by unfold stopK; rw [decide_eq_true g2]; rfl)
    have e3 : wcK ⟨(cn, ci, cr, cq, cm), (r', op', at', n'), false, land .i64 n 65535, M'⟩ = (R1, R2, R3, R4) := congrArg (fun z : RunSt => z.1) (h2.symm.trans hrun)
    have g9 : denEq CoreT (R1, R2, R3, R4) (wcK ⟨(cn, ci, cr, cq, cm), (r', op', at', n'), false, land .i64 n 65535, M'⟩) = false := g9
    rw [e3, denEq_self rfl] at g9; cases g9
  · show Ro.length ≤ 4611686018427387904
    omega
  · rename_i g1 g2 g3 g9
    have g1 : (j : Int) < 20 := g1
    have h2 := runW_stop (s := land .i64 n 65535) (show j < 20 by omega) (c := (cn, ci, cr, cq, cm)) (k := (r', op', at', n')) (M := M') (o := o) (by unfold stopK; rw [decide_eq_false g2, decide_eq_true g3]; rfl)
    have e3 : (o ++ [busV ⟨(cn, ci, cr, cq, cm), (r', op', at', n'), false, land .i64 n 65535, M'⟩]) = Ro := congrArg (fun z : RunSt => z.2.2) (h2.symm.trans hrun)
    refine .mk [] [] _ rfl rfl rfl rfl rfl rfl (imm_bool ?_)
    show eqB (α := List Bsv) Ro (o ++ [busV ⟨(cn, ci, cr, cq, cm), (r', op', at', n'), false, land .i64 n 65535, M'⟩]) = true
    exact eqB_t e3.symm
  · rename_i g1 g2 g3 g9
    exfalso
    have g1 : (j : Int) < 20 := g1
    have h2 := runW_stop (s := land .i64 n 65535) (show j < 20 by omega) (c := (cn, ci, cr, cq, cm)) (k := (r', op', at', n')) (M := M') (o := o) (by unfold stopK; rw [decide_eq_false g2, decide_eq_true g3]; rfl)
    have e3 : wcK ⟨(cn, ci, cr, cq, cm), (r', op', at', n'), false, land .i64 n 65535, M'⟩ = (R1, R2, R3, R4) := congrArg (fun z : RunSt => z.1) (h2.symm.trans hrun)
    have g9 : denEq CoreT (R1, R2, R3, R4) (wcK ⟨(cn, ci, cr, cq, cm), (r', op', at', n'), false, land .i64 n 65535, M'⟩) = false := g9
    rw [e3, denEq_self rfl] at g9; cases g9
  · rename_i g1 g2 g3
    have g1 : (j : Int) < 20 := g1
    have h2 := runW_go (s := land .i64 n 65535) (show j < 20 by omega) (c := (cn, ci, cr, cq, cm)) (k := (r', op', at', n')) (M := M') (o := o) (by unfold stopK; rw [decide_eq_false g2, decide_eq_false g3]; rfl)
    apply Exists.intro
    apply Exists.intro (nxtW (cn, ci, cr, cq, cm) (land .i64 n 65535) (r', op', at', n') M' o)
    refine And.intro (And.intro ?lt253 (And.intro ?ei253 ?inv253)) (Le.mk [] [0, 1, 2, 3, 4, 5, 6, 10] rfl rfl ?hh253 ?ht253)
    case hh253 => exact rfl
    case ht253 => repeat' first | exact trivial | exact ⟨rfl, rfl⟩ | refine And.intro ?_ ?_
    case lt253 => omega
    case ei253 => exact up_i (by omega)
    refine ⟨h2.symm.trans hrun, tellP_tell hk _ _, ?_⟩
    show (o ++ [_]).length ≤ j + 1
    rw [List.length_append]
    show o.length + 1 ≤ j + 1
    omega
  · show Ro.length ≤ 4611686018427387904
    omega
  · rename_i g1 g9
    have g1 : ¬ (j : Int) < 20 := g1
    have h2 : ((r', op', at', n'), M', o) = ((R1, R2, R3, R4), RM, Ro) := by rw [← hrun, show 20 - j = 0 by omega]; rfl
    have e3 : o = Ro := congrArg (fun z : RunSt => z.2.2) h2
    refine .mk [] [] _ rfl rfl rfl rfl rfl rfl (imm_bool ?_)
    show eqB (α := List Bsv) Ro o = true
    exact eqB_t e3.symm
  · rename_i g1 g9
    exfalso
    have g1 : ¬ (j : Int) < 20 := g1
    have h2 : ((r', op', at', n'), M', o) = ((R1, R2, R3, R4), RM, Ro) := by rw [← hrun, show 20 - j = 0 by omega]; rfl
    have e3 : (r', op', at', n') = (R1, R2, R3, R4) := congrArg (fun z : RunSt => z.1) h2
    have g9 : denEq CoreT (R1, R2, R3, R4) (r', op', at', n') = false := g9
    rw [e3, denEq_self rfl] at g9; cases g9

end Go.Proofs.Ytanaaecfghmmaaa

/- The arguments of a law: from what they read as to data, and back behind the call. -/
namespace Go.Fw
open Go.ChangeShapes Go.WideShapes Go.RowKit
set_option linter.unusedVariables false
set_option linter.unusedSimpArgs false

def sigFits (P : Program) (m : Nat) (g : Sig) (t : TypeId) : Bool := tyFits P m g.t t && match P.underlying t with
  | some (.struct _) => g.ag
  | some (.int _) => !g.ag
  | some .bool => !g.ag
  | some .string => !g.ag
  | some (.slice _) => !g.ag
  | some (.array _ _) => g.ag
  | _ => false
def sigsFit (P : Program) (m : Nat) : List Sig → List TypeId → Bool
  | [], [] => true
  | g :: gs, t :: ts => sigFits P m g t && sigsFit P m gs ts
  | _, _ => false
def WfA : (gs : List Sig) → Args gs → Prop
  | [], _ => True
  | g :: gs, x => Wf g.t x.1 ∧ WfA gs x.2

section
variable {H : Type} {enc : TypeId × Value → H} {P : Program} {w : World} {base : Nat}

theorem one_cell {v u : Value} (h : v.cells.toList = [u]) (hv : ∀ cs, v ≠ .agg cs) : v = u := by
  cases v with
  | agg cs => exact absurd rfl (hv cs)
  | _ => simpa [Value.cells] using h

theorem CR.one {w : World} {S : Nat → Prop} {t : Ty} {d : Den t} {v : Value} (hc : CR w S t d [v]) (h : (cells t d).length = 1) (E : Env) (hw : E.w = w) (hS : E.S = S) : ∃ c, cells t d = [c] ∧ CellR E c [v] := by
  subst hw; subst hS
  have := hc.items
  match hh : cells t d, h with
  | [c], _ =>
    rw [hh] at this
    obtain ⟨r, s, e, h1, h2⟩ := this
    simp only [IR] at h2
    subst h2
    simp at e
    subst e
    exact ⟨c, rfl, h1⟩

variable {bk : DataW H → Nat} {ba : List (DataW H) → Nat}
theorem v1_open (B : BulkLaw bk ba) {m fuel : Nat} {g : Sig} {t : TypeId} {v : Value} {x : DataW H × List MemPlace} (hf : sigFits P m g t = true) (hv : Value.okWide P w .any base t v) (hz : ∀ z ∈ DataW.weights P t x.1, z ≤ reachBytes)
    (h : DataW.trod enc P w 0 (fun _ => true) true fuel t v.cells.toList = some x) : ∃ d : Den g.t, V1R (startE w) (canonV g d) v ∧ Wf g.t d ∧ bd g.t d ≤ bk x.1 := by
  unfold sigFits at hf
  rw [Bool.and_eq_true] at hf
  obtain ⟨h1, h2⟩ := hf
  obtain ⟨d, hc, hw, hb⟩ := open_cr B m h1 hz h
  refine ⟨d, ?_, hw, hb⟩
  have single : ∀ u, v = u → (∀ cs, v ≠ .agg cs) → g.ag = false → (cells g.t d).length = 1 → V1R (startE w) (canonV g d) v := by
    intro u e hn hg hl
    have hcl : v.cells.toList = [v] := by
      cases v with
      | agg cs => exact absurd rfl (hn cs)
      | _ => rfl
    rw [hcl] at hc
    obtain ⟨c, e1, e2⟩ := hc.one hl (startE w) rfl rfl
    unfold canonV
    rw [hg]
    simp only [e1]
    exact e2
  cases m with
  | zero => cases h1
  | succ m =>
  unfold tyFits at h1
  split at h2
  · rename_i F hu
    obtain ⟨cs, rfl, _⟩ := okWide_struct hu hv
    unfold canonV
    rw [h2]
    exact ⟨cs, rfl, hc.items (E := startE w)⟩
  · rename_i k hu
    obtain ⟨n, rfl⟩ := okWide_int hu hv
    refine single _ rfl (by simp) (by simpa using h2) ?_
    rw [hu] at h1
    match g, d, h1 with
    | ⟨_, .int _⟩, _, _ => rfl
  · rename_i hu
    obtain ⟨n, rfl⟩ := okWide_bool hu hv
    refine single _ rfl (by simp) (by simpa using h2) ?_
    rw [hu] at h1
    match g, d, h1 with
    | ⟨_, .bool⟩, _, _ => rfl
  · rename_i hu
    obtain ⟨n, rfl⟩ := okWide_string hu hv
    refine single _ rfl (by simp) (by simpa using h2) ?_
    rw [hu] at h1
    match g, d, h1 with
    | ⟨_, .str⟩, _, _ => rfl
  · rename_i e hu
    obtain ⟨a, len, cap, rfl⟩ := okWide_slice hu hv
    refine single _ rfl (by simp) (by simpa using h2) ?_
    rw [hu] at h1
    match g, d, h1 with
    | ⟨_, .sl _⟩, _, _ => rfl
  · rename_i n e hu
    obtain ⟨cs, rfl⟩ : ∃ cs, v = .agg cs := by
      simp only [Value.okWide, hu] at hv
      obtain ⟨cs, h1, _⟩ := hv
      exact ⟨cs, h1⟩
    unfold canonV
    rw [h2]
    exact ⟨cs, rfl, hc.items (E := startE w)⟩
  · cases h2

def bdA : (gs : List Sig) → Args gs → Nat
  | [], _ => 0
  | g :: gs, x => bd g.t x.1 + bdA gs x.2
theorem args_open (B : BulkLaw bk ba) {m : Nat} {vt : List TypeId} {gds : List (DataW H)} : ∀ {gs : List Sig} {ts : List TypeId} {vs : List Value} {ds : List (DataW H)} {ps : List MemPlace}, sigsFit P m gs ts = true →
    (∀ (j : Nat) t v, ts[j]? = some t → vs[j]? = some v → Value.okWide P w .any base t v) → (∀ z ∈ DataW.weightsEach P (ts ++ vt) (ds ++ gds), z ≤ reachBytes) →
    DataW.TrodAll enc P w 0 (fun _ => true) true ts vs ds ps → ∃ xs : Args gs, VsR (startE w) (canonArgs gs xs) vs ∧ WfA gs xs ∧ bdA gs xs ≤ ba ds
  | [], [], vs, ds, ps, _, _, _, h => by
    obtain ⟨rfl, rfl, rfl⟩ := trodAll_nil h
    exact ⟨(), rfl, trivial, Nat.zero_le _⟩
  | g :: gs, t :: ts, vs, ds, ps, hf, hv, hz, h => by
    unfold sigsFit at hf
    rw [Bool.and_eq_true] at hf
    obtain ⟨v, vs', d, ds', p, q, rfl, rfl, rfl, ⟨fuel, h1⟩, h2⟩ := trodAll_cons h
    rw [List.cons_append, List.cons_append, DataW.weightsEach] at hz
    obtain ⟨x, hx, wx, bx⟩ := v1_open B (x := (d, p)) hf.1 (hv 0 t v rfl rfl) (fun z hz' => hz z (List.mem_append.2 (.inl hz'))) h1
    obtain ⟨xs, hxs, wxs, bxs⟩ := args_open B hf.2 (fun j t v ht hvj => hv (j + 1) t v (by simpa using ht) (by simpa using hvj)) (fun z hz' => hz z (List.mem_append.2 (.inr hz'))) h2
    exact ⟨(x, xs), VsR.cons hx hxs, ⟨wx, wxs⟩, Nat.le_trans (Nat.add_le_add bx bxs) (B.cons _ _)⟩
  | [], _ :: _, _, _, _, hf, _, _, _ => by cases hf
  | _ :: _, [], _, _, _, hf, _, _, _ => by cases hf

theorem dec_cells {look : Nat → Option Blk} : ∀ (t : Ty) (x : Den t) (r : List Cell), dec look t (cells t x ++ r) = some (x, [], r)
  | .int k, x, r => by simp [cells, dec]
  | .ints k n, l, r => by simp [cells, dec]
  | .bool, b, r => rfl
  | .str, s, r => rfl
  | .sl t, l, r => by
    have : slAs look t (.ro t l) = some l := by
      unfold slAs
      simp only [sliceOf, eqTy, dif_pos, castL]
    simp only [cells, List.cons_append, List.nil_append, dec, this, frzN]
  | .pair a b, x, r => by
    simp only [cells, dec, List.append_assoc, dec_cells a x.1, dec_cells b x.2, List.append_nil]

theorem decAll_cells {look : Nat → Option Blk} (t : Ty) (x : Den t) : decAll look t (cells t x) = some (x, []) := by
  unfold decAll
  have := dec_cells (look := look) t x []
  rw [List.append_nil] at this
  rw [this]

def Sig.fine (g : Sig) : Bool := g.ag || match g.t with | .int _ => true | .bool => true | .str => true | .sl _ => true | _ => false
theorem decV_canon {g : Sig} (h : g.fine = true) (d : Den g.t) : decV g (canonV g d) = some d := by
  obtain ⟨ag, t⟩ := g
  cases ag with
  | true =>
    unfold decV canonV
    simp only [decAll_cells]
  | false =>
    have one : ∃ c, cells t d = [c] := by
      cases t <;> simp [Sig.fine] at h <;> exact ⟨_, rfl⟩
    obtain ⟨c, hc⟩ := one
    have e : canonV ⟨false, t⟩ d = .c c := by unfold canonV; simp only [hc]
    have e2 : decAll (fun _ => none) t [c] = some (d, []) := by rw [← hc]; exact decAll_cells t d
    unfold decV
    simp only [e, e2, hc]
theorem decArgs_canon : ∀ {gs : List Sig} (h : gs.all Sig.fine = true) (xs : Args gs), decArgs gs (canonArgs gs xs) = some xs
  | [], _, () => rfl
  | g :: gs, h, (a, r) => by
    rw [List.all_cons, Bool.and_eq_true] at h
    show (match decV g (canonV g a) with | some d => (match decArgs gs (canonArgs gs r) with | some r => some (d, r) | none => none) | none => none) = _
    rw [decV_canon h.1, decArgs_canon h.2]

def rowsFine (P : Program) (ts : List TypeId) : Bool := ts.all fun t => P.readableRec t && Nat.blt t P.types.size
theorem args_back {W W' : World} (hl : laidOutB P = true) (hb : Below W.heap.size W W') : ∀ {ts : List TypeId} {vs : List Value} {ds : List (DataW H)} {ps : List MemPlace}, rowsFine P ts = true → (∀ x ∈ ps, x.block < W.heap.size) →
    DataW.TrodAll enc P W 0 (fun _ => true) true ts vs ds ps → DataW.TrodAll enc P W' 0 (fun b => decide (b < W.heap.size)) true ts vs ds ps
  | [], vs, ds, ps, _, _, h => by
    obtain ⟨rfl, rfl, rfl⟩ := trodAll_nil h
    exact trodAll_mk0
  | t :: ts, vs, ds, ps, hf, hlt, h => by
    unfold rowsFine at hf
    rw [List.all_cons, Bool.and_eq_true, Bool.and_eq_true] at hf
    obtain ⟨v, vs', d, ds', p, q, rfl, rfl, rfl, h1, h2⟩ := trodAll_cons h
    exact trodAll_cons_mk (Below.trod hl hf.1.1 (by simpa [Nat.blt_eq] using hf.1.2) h1 hb fun x hx => hlt x (List.mem_append.2 (.inl hx))) (args_back hl hb hf.2 (fun x hx => hlt x (List.mem_append.2 (.inr hx))) h2)
end

/-- a law that is true, over arguments of any kind -/
theorem PSpec.law_all {P : Program} {H : Type} {enc : TypeId × Value → H} {f : FuncId} {s : PSpec} (h : GoodF P f s.spec) {W : World} {base m : Nat} {ts vt : List TypeId} {args : Array Value} {ds gds : List (DataW H)} {p : List MemPlace}
    (hfit : sigsFit P m s.gs ts = true) (hfine : s.gs.all Sig.fine = true) (hrow : rowsFine P ts = true) (hl : laidOutB P = true)
    (hval : ∀ (j : Nat) t v, ts[j]? = some t → args.toList[j]? = some v → Value.okWide P W .any base t v)
    (hz : (DataW.weightsEach P (ts ++ vt) (ds ++ gds)).all (· ≤ reachBytes) = true) (hA : DataW.TrodAll enc P W 0 (fun _ => true) true ts args.toList ds p)
    (hs : ∀ xs, WfA s.gs xs → ∃ q, s.out xs = (q, .cell (bv true), []) ∧ ∀ z, q = some z → z) :
    Calls P f args W fun e w' => e = .returned (.bool true) ∧ Below W.heap.size W w' ∧ DataW.TrodAll enc P w' 0 (fun b => decide (b < W.heap.size)) true ts args.toList ds p := by
  obtain ⟨xs, hv, hw, _⟩ := args_open (bulk_size H) hfit hval (fun z hz' => by simpa using List.all_eq_true.1 hz z hz') hA
  obtain ⟨q, h1, h2⟩ := hs xs hw
  refine (PSpec.law h xs hv (decArgs_canon hfine xs) h1 h2).mono fun e W' ⟨he, hb⟩ => ⟨he, hb, ?_⟩
  exact args_back hl hb hrow (DataW.TrodAll.lt hA) hA

/-- a law that is true, over arguments of any kind up to a bulk -/
theorem PSpec.law_upto {P : Program} {H : Type} {enc : TypeId × Value → H} {f : FuncId} {s : PSpec} (h : GoodF P f s.spec) {W : World} {base m N : Nat} {ts vt : List TypeId} {args : Array Value} {ds gds : List (DataW H)} {p : List MemPlace}
    {bk : DataW H → Nat} {ba : List (DataW H) → Nat} (B : BulkLaw bk ba) (hN : ba ds ≤ N)
    (hfit : sigsFit P m s.gs ts = true) (hfine : s.gs.all Sig.fine = true) (hrow : rowsFine P ts = true) (hl : laidOutB P = true)
    (hval : ∀ (j : Nat) t v, ts[j]? = some t → args.toList[j]? = some v → Value.okWide P W .any base t v)
    (hz : (DataW.weightsEach P (ts ++ vt) (ds ++ gds)).all (· ≤ reachBytes) = true) (hA : DataW.TrodAll enc P W 0 (fun _ => true) true ts args.toList ds p)
    (hs : ∀ xs, WfA s.gs xs → bdA s.gs xs ≤ N → ∃ q, s.out xs = (q, .cell (bv true), []) ∧ ∀ z, q = some z → z) :
    Calls P f args W fun e w' => e = .returned (.bool true) ∧ Below W.heap.size W w' ∧ DataW.TrodAll enc P w' 0 (fun b => decide (b < W.heap.size)) true ts args.toList ds p := by
  obtain ⟨xs, hv, hw, hbd⟩ := args_open B hfit hval (fun z hz' => by simpa using List.all_eq_true.1 hz z hz') hA
  obtain ⟨q, h1, h2⟩ := hs xs hw (Nat.le_trans hbd hN)
  refine (PSpec.law h xs hv (decArgs_canon hfine xs) h1 h2).mono fun e W' ⟨he, hb⟩ => ⟨he, hb, ?_⟩
  exact args_back hl hb hrow (DataW.TrodAll.lt hA) hA

end Go.Fw

/- What a processor that reads well, up to a bulk, keeps to. -/
namespace Go.Proofs.Ytanaaecfghmmaaa
open Go.Fw
set_option linter.unusedVariables false
set_option linter.unusedSimpArgs false
theorem sum_mem {α : Type} (m : α → Nat) : ∀ {l : List α} {x : α}, x ∈ l → m x ≤ (l.map m).sum
  | [], _, h => by cases h
  | y :: r, x, h => by
    rw [List.map_cons, List.sum_cons]
    rcases List.mem_cons.1 h with rfl | h
    · omega
    · have := sum_mem m h; omega
theorem sum_len {α : Type} (m : α → Nat) (hm : ∀ x, 1 ≤ m x) : ∀ l : List α, l.length ≤ (l.map m).sum
  | [] => Nat.le_refl _
  | y :: r => by
    rw [List.map_cons, List.sum_cons, List.length_cons]
    have := sum_len m hm r
    have := hm y
    omega
theorem bd_stp (s : Stp) : 1 ≤ bd StepT s := by show 1 ≤ 1 + (1 + (1 + 1)); omega
theorem bd_cyc (x : Cyc) : bd CycT x = 1 + (1 + (1 + ((List.map (bd StepT) x.2.2.2).sum + 1))) := rfl
theorem bd_ins (x : Ins) : bd InsT x = 1 + ((ByteArray.size x.2.1 + 1) + (1 + ((List.map (bd CycT) x.2.2.2).sum + 1))) := rfl
theorem okCyc_of {l : List Cyc} (h : Wf (.sl CycT) l) : okCyc l := ⟨h.1, fun x hx => (h.2 x hx).2.2.2.1⟩
theorem cpuP_of {c : Cpu} (h : Wf CpuT c) : cpuOk c ∧ (okCyc c.2.2.1 ∧ okCyc c.2.2.2.1 ∧ okCyc c.2.2.2.2) :=
  ⟨⟨h.2.1.1, fun x hx => okCyc_of (h.2.1.2 x hx).2.2.2⟩, okCyc_of h.2.2.1, okCyc_of h.2.2.2.1, okCyc_of h.2.2.2.2⟩
theorem tellP_of {c : Cpu} {k : Kor} (hk : k.1.length = 9) (h : Wf CpuT c) : tellP c k := ⟨(cpuP_of h).1, (cpuP_of h).2, hk⟩
theorem tl_pre (xs : Args tlS.gs) (hw : WfA tlS.gs xs) : tellP xs.1 xs.2.1 := tellP_of hw.2.1.1.1 hw.1

end Go.Proofs.Ytanaaecfghmmaaa

/- What the arguments of WholeRuns keep to. -/
namespace Go.Proofs.Ytanaaecfghmmaaa
open Go.Fw
set_option linter.unusedVariables false
theorem wrs_pre (xs : Args wrsS.gs) (hw : WfA wrsS.gs xs) : tellP xs.1 xs.2.1 := tellP_of hw.2.1.1.1 hw.1

end Go.Proofs.Ytanaaecfghmmaaa

