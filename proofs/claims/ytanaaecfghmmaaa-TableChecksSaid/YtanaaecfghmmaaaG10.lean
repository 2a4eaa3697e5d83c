/- Part 10 of the proof: TabCyc2 Wires TabIx TabChk TabChk2 TabErr TabLaw Fw32 TabW. No statement is handed in here; conditions: none. -/
import Derived.Test.YtanaaecfghmmaaaG9
import Derived.Test.YtanaaecfghmmaaaG6
import Derived.Test.YtanaaecfghmmaaaG8
import Derived.Carry
import Derived.OpenShut
/- Cycles: what the reference says. -/
namespace Go.Proofs.Ytanaaecfghmmaaa
open Go.Fw
set_option linter.unusedVariables false
set_option linter.unusedSimpArgs false
set_option linter.constructorNameAsVariable false
set_option maxRecDepth 100000

set_option maxHeartbeats 2000000 in
theorem rCycles_ok : GoodF Try.prog 61 tcyclesS.spec := by
  have hT := tab_ok (fs := [(72, narrowS.spec), (93, tstepS.spec)]) tree_ok
  have hP : SpecsOk Try.prog (tab tree [(72, narrowS.spec), (93, tstepS.spec)]) := specs_cons rNarrow_ok (specs_cons rStep_ok specs_nil)
  refine tcyclesS.good (fn := Try.f61) hT hP Try.func61 (by kernel_rfl) rfl fun (l : List Cyc) _ => ?_
  repeat' first
    | (refine Go.mk ?_; conv => whnf)
    | refine Need.go ?_ ?_
    | refine NilG.go (fun _ => ?_) (fun _ => ?_)
    | refine Br.dec (fun _ => ?_) (fun _ => ?_)
    | refine Br.go (fun _ => ?_) (fun _ => ?_)
    | refine draw_go hT hP mixed ?_
    | refine round_go hT hP ?_
  · rename_i g
    have g : (l.length : Int) > 8 := g
    refine .mk [] [] _ rfl rfl rfl rfl rfl rfl (imm_int ?_)
    exact (if_pos (by omega) : cycsE l = 2).symm
  rename_i g0
  have g0 : ¬ (l.length : Int) > 8 := g0
  have hC : cycsE l = errL cycE l := if_neg (by omega)
  refine up_go hT hP (A := Unit) l.length (fun i _ => St.mk [.dead, .dead, .dead, .dead, .dead, .dead, .dead, .dead, .dead, .dead, .dead, .cell (.ro CycT l), I l.length, I i, .dead, .dead, .dead, .dead, .dead, .dead, .dead, .dead, .dead, .dead, .dead, .dead, .dead, .dead, .dead, .dead, .dead, .dead, .dead, .dead, .dead, .dead, .dead, .dead, .dead, .dead, .dead, .dead, .dead, .dead, .dead, .dead, .dead, .dead, .dead, .dead, .dead, .dead, .dead, .dead, .dead, .dead, .dead, .dead, .dead, .dead, .dead, .dead, .dead, .dead, .dead, .dead, .dead, .dead, .dead, .dead, .dead, .dead, .dead, .dead, .dead, .dead, .dead, .dead, .dead] [])
    (fun k _ => errL cycE (l.drop k) = errL cycE l) () (Le.mk [] [] rfl rfl rfl ?_) rfl fun k _ hk hi => ?_
  · repeat' first | exact trivial | exact ⟨rfl, rfl⟩ | refine And.intro ?_ ?_
  have hH : ∀ c : Cyc, l.getD k (dflt CycT) = c → cycE c ≠ 0 → k < l.length → cycE c = cycsE l := fun c e h hk => by
    rw [hC, ← hi, errL_no (dflt CycT) hk (by rw [e]; exact h), e]
  have hN : ∀ c : Cyc, l.getD k (dflt CycT) = c → cycE c = 0 → k < l.length → errL cycE (l.drop (k + 1)) = errL cycE l := fun c e h hk => by
    rw [← hi, errL_ok (dflt CycT) hk (by rw [e]; exact h)]
  repeat' first
    | (refine Go.mk ?_; conv => whnf)
    | refine Need.go ?_ ?_
    | refine NilG.go (fun _ => ?_) (fun _ => ?_)
    | refine Br.dec (fun _ => ?_) (fun _ => ?_)
    | refine Br.go (fun _ => ?_) (fun _ => ?_)
    | refine draw_go hT hP mixed ?_
    | refine round_go hT hP ?_
  all_goals (try dsimp only [castL_eq] at *)
  all_goals (generalize hc : l.getD (k : Int).toNat (dflt CycT) = c at *; obtain ⟨cb, ca, cr, cs⟩ := c)
  · show 0 ≤ (k : Int) ∧ (k : Int) < (l.length : Int)
    omega
  all_goals first
    | (have hD : ∀ n : Int, n ≠ 0 → headE (cb, ca, cr, cs) = n → k < l.length → n = cycsE l := fun n hn e hk => by
         have e2 : cycE (cb, ca, cr, cs) = n := by
           unfold cycE; rw [if_neg (by rw [e]; exact hn)]; exact e
         rw [← e2]; exact hH _ hc (by rw [e2]; exact hn) hk
       refine .mk [] [] _ rfl rfl rfl rfl rfl rfl (imm_int (hD _ (by decide) ?_ (by omega)))
       clear hT hP hH hN hD
       simp [headE, narrowB] at *
       first
         | omega
         | (simp_all; done)
         | (simp_all; omega)
         | skip)
    | (have hE : headE (cb, ca, cr, cs) = 0 := by
         clear hT hP hH hN
         simp [headE, narrowB] at *
         first
           | omega
           | (simp_all; done)
           | (simp_all; omega)
         done)
    | skip
  · have hn : cs.length ≤ 6 := headE_len hE
    have hD : cycE (cb, ca, cr, cs) = errL stpE cs := if_pos hE
    have hk2 : k < l.length := by omega
    refine up_go hT hP (A := Unit) cs.length (fun i _ => St.mk [.dead, .dead, .dead, .dead, .dead, .dead, .dead, .dead, .dead, .dead, .dead, .cell (.ro CycT l), I l.length, I k, .dead, .dead, .dead, .dead, .dead, .dead, .dead, .dead, .dead, .dead, .dead, .dead, .dead, .dead, .dead, .dead, .dead, .dead, .dead, .dead, .dead, .dead, .dead, .dead, .dead, .dead, .dead, .dead, .dead, .dead, .dead, .dead, .dead, .dead, .dead, .dead, .dead, .dead, .dead, .dead, .dead, .dead, .dead, .dead, .dead, .dead, .dead, .dead, .dead, .dead, .dead, .dead, .cell (.ro StepT cs), I cs.length, I i, .dead, .dead, .dead, .dead, .dead, .dead, .dead, .dead, .dead, .dead] [])
      (fun j _ => errL stpE (cs.drop j) = errL stpE cs) () (Le.mk [] [] rfl rfl rfl ?_) rfl fun j _ hj hi2 => ?_
    · repeat' first | exact trivial | exact ⟨rfl, rfl⟩ | refine And.intro ?_ ?_
    repeat' first
      | (refine Go.mk ?_; conv => whnf)
      | refine Need.go ?_ ?_
      | refine NilG.go (fun _ => ?_) (fun _ => ?_)
      | refine Br.dec (fun _ => ?_) (fun _ => ?_)
      | refine Br.go (fun _ => ?_) (fun _ => ?_)
      | refine draw_go hT hP mixed ?_
      | refine round_go hT hP ?_
    all_goals clear hT hP
    · rename_i g
      have g : (j : Int) < (cs.length : Int) := g
      show 0 ≤ (j : Int) ∧ (j : Int) < (cs.length : Int)
      omega
    · rename_i g g2
      have g : (j : Int) < (cs.length : Int) := g
      have g2 : (stpE (cs.getD j (dflt StepT)) != 0) = true := g2
      have g3 : stpE (cs.getD j (dflt StepT)) ≠ 0 := by simpa using g2
      have e : stpE (cs.getD j (dflt StepT)) = cycE (cb, ca, cr, cs) := by
        rw [hD, ← hi2, errL_no (dflt StepT) (by omega) g3]
      refine .mk [] [] _ rfl rfl rfl rfl rfl rfl (imm_int ?_)
      show stpE (cs.getD j (dflt StepT)) = cycsE l
      rw [e]; exact hH _ hc (by rw [← e]; exact g3) hk2
    · rename_i g g2
      have g : (j : Int) < (cs.length : Int) := g
      have g2 : (stpE (cs.getD j (dflt StepT)) != 0) = false := g2
      apply Exists.intro
      apply Exists.intro ()
      refine And.intro (And.intro ?lt101 (And.intro ?ei101 ?inv101)) (Le.mk [] [] rfl rfl ?hh101 ?ht101)
      case hh101 => exact rfl
      case ht101 => repeat' first | exact trivial | exact ⟨rfl, rfl⟩ | refine And.intro ?_ ?_
      case lt101 => omega
      case ei101 => exact up_i (by omega)
      exact (errL_ok (dflt StepT) (by omega) (by simpa using g2)).symm.trans hi2
    · rename_i g
      have g : ¬ (j : Int) < (cs.length : Int) := g
      have e : cycE (cb, ca, cr, cs) = 0 := by
        rw [hD, ← hi2, List.drop_of_length_le (by omega)]; rfl
      apply Exists.intro
      apply Exists.intro ()
      refine And.intro (And.intro ?lt113 (And.intro ?ei113 ?inv113)) (Le.mk [] [] rfl rfl ?hh113 ?ht113)
      case hh113 => exact rfl
      case ht113 => repeat' first | exact trivial | exact ⟨rfl, rfl⟩ | refine And.intro ?_ ?_
      case lt113 => omega
      case ei113 => exact up_i (by omega)
      exact hN _ hc e hk2
  · have hn : cs.length ≤ 6 := headE_len hE
    have hD : cycE (cb, ca, cr, cs) = errL stpE cs := if_pos hE
    have hk2 : k < l.length := by omega
    refine up_go hT hP (A := Unit) cs.length (fun i _ => St.mk [.dead, .dead, .dead, .dead, .dead, .dead, .dead, .dead, .dead, .dead, .dead, .cell (.ro CycT l), I l.length, I k, .dead, .dead, .dead, .dead, .dead, .dead, .dead, .dead, .dead, .dead, .dead, .dead, .dead, .dead, .dead, .dead, .dead, .dead, .dead, .dead, .dead, .dead, .dead, .dead, .dead, .dead, .dead, .dead, .dead, .dead, .dead, .dead, .dead, .dead, .dead, .dead, .dead, .dead, .dead, .dead, .dead, .dead, .dead, .dead, .dead, .dead, .dead, .dead, .dead, .dead, .dead, .dead, .cell (.ro StepT cs), I cs.length, I i, .dead, .dead, .dead, .dead, .dead, .dead, .dead, .dead, .dead, .dead] [])
      (fun j _ => errL stpE (cs.drop j) = errL stpE cs) () (Le.mk [] [] rfl rfl rfl ?_) rfl fun j _ hj hi2 => ?_
    · repeat' first | exact trivial | exact ⟨rfl, rfl⟩ | refine And.intro ?_ ?_
    repeat' first
      | (refine Go.mk ?_; conv => whnf)
      | refine Need.go ?_ ?_
      | refine NilG.go (fun _ => ?_) (fun _ => ?_)
      | refine Br.dec (fun _ => ?_) (fun _ => ?_)
      | refine Br.go (fun _ => ?_) (fun _ => ?_)
      | refine draw_go hT hP mixed ?_
      | refine round_go hT hP ?_
    all_goals clear hT hP
    · rename_i g
      have g : (j : Int) < (cs.length : Int) := g
      show 0 ≤ (j : Int) ∧ (j : Int) < (cs.length : Int)
      omega
    · rename_i g g2
      have g : (j : Int) < (cs.length : Int) := g
      have g2 : (stpE (cs.getD j (dflt StepT)) != 0) = true := g2
      have g3 : stpE (cs.getD j (dflt StepT)) ≠ 0 := by simpa using g2
      have e : stpE (cs.getD j (dflt StepT)) = cycE (cb, ca, cr, cs) := by
        rw [hD, ← hi2, errL_no (dflt StepT) (by omega) g3]
      refine .mk [] [] _ rfl rfl rfl rfl rfl rfl (imm_int ?_)
      show stpE (cs.getD j (dflt StepT)) = cycsE l
      rw [e]; exact hH _ hc (by rw [← e]; exact g3) hk2
    · rename_i g g2
      have g : (j : Int) < (cs.length : Int) := g
      have g2 : (stpE (cs.getD j (dflt StepT)) != 0) = false := g2
      apply Exists.intro
      apply Exists.intro ()
      refine And.intro (And.intro ?lt152 (And.intro ?ei152 ?inv152)) (Le.mk [] [] rfl rfl ?hh152 ?ht152)
      case hh152 => exact rfl
      case ht152 => repeat' first | exact trivial | exact ⟨rfl, rfl⟩ | refine And.intro ?_ ?_
      case lt152 => omega
      case ei152 => exact up_i (by omega)
      exact (errL_ok (dflt StepT) (by omega) (by simpa using g2)).symm.trans hi2
    · rename_i g
      have g : ¬ (j : Int) < (cs.length : Int) := g
      have e : cycE (cb, ca, cr, cs) = 0 := by
        rw [hD, ← hi2, List.drop_of_length_le (by omega)]; rfl
      apply Exists.intro
      apply Exists.intro ()
      refine And.intro (And.intro ?lt164 (And.intro ?ei164 ?inv164)) (Le.mk [] [] rfl rfl ?hh164 ?ht164)
      case hh164 => exact rfl
      case ht164 => repeat' first | exact trivial | exact ⟨rfl, rfl⟩ | refine And.intro ?_ ?_
      case lt164 => omega
      case ei164 => exact up_i (by omega)
      exact hN _ hc e hk2
  · have hn : cs.length ≤ 6 := headE_len hE
    have hD : cycE (cb, ca, cr, cs) = errL stpE cs := if_pos hE
    have hk2 : k < l.length := by omega
    refine up_go hT hP (A := Unit) cs.length (fun i _ => St.mk [.dead, .dead, .dead, .dead, .dead, .dead, .dead, .dead, .dead, .dead, .dead, .cell (.ro CycT l), I l.length, I k, .dead, .dead, .dead, .dead, .dead, .dead, .dead, .dead, .dead, .dead, .dead, .dead, .dead, .dead, .dead, .dead, .dead, .dead, .dead, .dead, .dead, .dead, .dead, .dead, .dead, .dead, .dead, .dead, .dead, .dead, .dead, .dead, .dead, .dead, .dead, .dead, .dead, .dead, .dead, .dead, .dead, .dead, .dead, .dead, .dead, .dead, .dead, .dead, .dead, .dead, .dead, .dead, .cell (.ro StepT cs), I cs.length, I i, .dead, .dead, .dead, .dead, .dead, .dead, .dead, .dead, .dead, .dead] [])
      (fun j _ => errL stpE (cs.drop j) = errL stpE cs) () (Le.mk [] [] rfl rfl rfl ?_) rfl fun j _ hj hi2 => ?_
    · repeat' first | exact trivial | exact ⟨rfl, rfl⟩ | refine And.intro ?_ ?_
    repeat' first
      | (refine Go.mk ?_; conv => whnf)
      | refine Need.go ?_ ?_
      | refine NilG.go (fun _ => ?_) (fun _ => ?_)
      | refine Br.dec (fun _ => ?_) (fun _ => ?_)
      | refine Br.go (fun _ => ?_) (fun _ => ?_)
      | refine draw_go hT hP mixed ?_
      | refine round_go hT hP ?_
    all_goals clear hT hP
    · rename_i g
      have g : (j : Int) < (cs.length : Int) := g
      show 0 ≤ (j : Int) ∧ (j : Int) < (cs.length : Int)
      omega
    · rename_i g g2
      have g : (j : Int) < (cs.length : Int) := g
      have g2 : (stpE (cs.getD j (dflt StepT)) != 0) = true := g2
      have g3 : stpE (cs.getD j (dflt StepT)) ≠ 0 := by simpa using g2
      have e : stpE (cs.getD j (dflt StepT)) = cycE (cb, ca, cr, cs) := by
        rw [hD, ← hi2, errL_no (dflt StepT) (by omega) g3]
      refine .mk [] [] _ rfl rfl rfl rfl rfl rfl (imm_int ?_)
      show stpE (cs.getD j (dflt StepT)) = cycsE l
      rw [e]; exact hH _ hc (by rw [← e]; exact g3) hk2
    · rename_i g g2
      have g : (j : Int) < (cs.length : Int) := g
      have g2 : (stpE (cs.getD j (dflt StepT)) != 0) = false := g2
      apply Exists.intro
      apply Exists.intro ()
      refine And.intro (And.intro ?lt203 (And.intro ?ei203 ?inv203)) (Le.mk [] [] rfl rfl ?hh203 ?ht203)
      case hh203 => exact rfl
      case ht203 => repeat' first | exact trivial | exact ⟨rfl, rfl⟩ | refine And.intro ?_ ?_
      case lt203 => omega
      case ei203 => exact up_i (by omega)
      exact (errL_ok (dflt StepT) (by omega) (by simpa using g2)).symm.trans hi2
    · rename_i g
      have g : ¬ (j : Int) < (cs.length : Int) := g
      have e : cycE (cb, ca, cr, cs) = 0 := by
        rw [hD, ← hi2, List.drop_of_length_le (by omega)]; rfl
      apply Exists.intro
      apply Exists.intro ()
      refine And.intro (And.intro ?lt215 (And.intro ?ei215 ?inv215)) (Le.mk [] [] rfl rfl ?hh215 ?ht215)
      case hh215 => exact rfl
      case ht215 => repeat' first | exact trivial | exact ⟨rfl, rfl⟩ | refine And.intro ?_ ?_
      case lt215 => omega
      case ei215 => exact up_i (by omega)
      exact hN _ hc e hk2
  · have hn : cs.length ≤ 6 := headE_len hE
    have hD : cycE (cb, ca, cr, cs) = errL stpE cs := if_pos hE
    have hk2 : k < l.length := by omega
    refine up_go hT hP (A := Unit) cs.length (fun i _ => St.mk [.dead, .dead, .dead, .dead, .dead, .dead, .dead, .dead, .dead, .dead, .dead, .cell (.ro CycT l), I l.length, I k, .dead, .dead, .dead, .dead, .dead, .dead, .dead, .dead, .dead, .dead, .dead, .dead, .dead, .dead, .dead, .dead, .dead, .dead, .dead, .dead, .dead, .dead, .dead, .dead, .dead, .dead, .dead, .dead, .dead, .dead, .dead, .dead, .dead, .dead, .dead, .dead, .dead, .dead, .dead, .dead, .dead, .dead, .dead, .dead, .dead, .dead, .dead, .dead, .dead, .dead, .dead, .dead, .cell (.ro StepT cs), I cs.length, I i, .dead, .dead, .dead, .dead, .dead, .dead, .dead, .dead, .dead, .dead] [])
      (fun j _ => errL stpE (cs.drop j) = errL stpE cs) () (Le.mk [] [] rfl rfl rfl ?_) rfl fun j _ hj hi2 => ?_
    · repeat' first | exact trivial | exact ⟨rfl, rfl⟩ | refine And.intro ?_ ?_
    repeat' first
      | (refine Go.mk ?_; conv => whnf)
      | refine Need.go ?_ ?_
      | refine NilG.go (fun _ => ?_) (fun _ => ?_)
      | refine Br.dec (fun _ => ?_) (fun _ => ?_)
      | refine Br.go (fun _ => ?_) (fun _ => ?_)
      | refine draw_go hT hP mixed ?_
      | refine round_go hT hP ?_
    all_goals clear hT hP
    · rename_i g
      have g : (j : Int) < (cs.length : Int) := g
      show 0 ≤ (j : Int) ∧ (j : Int) < (cs.length : Int)
      omega
    · rename_i g g2
      have g : (j : Int) < (cs.length : Int) := g
      have g2 : (stpE (cs.getD j (dflt StepT)) != 0) = true := g2
      have g3 : stpE (cs.getD j (dflt StepT)) ≠ 0 := by simpa using g2
      have e : stpE (cs.getD j (dflt StepT)) = cycE (cb, ca, cr, cs) := by
        rw [hD, ← hi2, errL_no (dflt StepT) (by omega) g3]
      refine .mk [] [] _ rfl rfl rfl rfl rfl rfl (imm_int ?_)
      show stpE (cs.getD j (dflt StepT)) = cycsE l
      rw [e]; exact hH _ hc (by rw [← e]; exact g3) hk2
    · rename_i g g2
      have g : (j : Int) < (cs.length : Int) := g
      have g2 : (stpE (cs.getD j (dflt StepT)) != 0) = false := g2
      apply Exists.intro
      apply Exists.intro ()
      refine And.intro (And.intro ?lt254 (And.intro ?ei254 ?inv254)) (Le.mk [] [] rfl rfl ?hh254 ?ht254)
      case hh254 => exact rfl
      case ht254 => repeat' first | exact trivial | exact ⟨rfl, rfl⟩ | refine And.intro ?_ ?_
      case lt254 => omega
      case ei254 => exact up_i (by omega)
      exact (errL_ok (dflt StepT) (by omega) (by simpa using g2)).symm.trans hi2
    · rename_i g
      have g : ¬ (j : Int) < (cs.length : Int) := g
      have e : cycE (cb, ca, cr, cs) = 0 := by
        rw [hD, ← hi2, List.drop_of_length_le (by omega)]; rfl
      apply Exists.intro
      apply Exists.intro ()
      refine And.intro (And.intro ?lt266 (And.intro ?ei266 ?inv266)) (Le.mk [] [] rfl rfl ?hh266 ?ht266)
      case hh266 => exact rfl
      case ht266 => repeat' first | exact trivial | exact ⟨rfl, rfl⟩ | refine And.intro ?_ ?_
      case lt266 => omega
      case ei266 => exact up_i (by omega)
      exact hN _ hc e hk2
  · have hn : cs.length ≤ 6 := headE_len hE
    have hD : cycE (cb, ca, cr, cs) = errL stpE cs := if_pos hE
    have hk2 : k < l.length := by omega
    refine up_go hT hP (A := Unit) cs.length (fun i _ => St.mk [.dead, .dead, .dead, .dead, .dead, .dead, .dead, .dead, .dead, .dead, .dead, .cell (.ro CycT l), I l.length, I k, .dead, .dead, .dead, .dead, .dead, .dead, .dead, .dead, .dead, .dead, .dead, .dead, .dead, .dead, .dead, .dead, .dead, .dead, .dead, .dead, .dead, .dead, .dead, .dead, .dead, .dead, .dead, .dead, .dead, .dead, .dead, .dead, .dead, .dead, .dead, .dead, .dead, .dead, .dead, .dead, .dead, .dead, .dead, .dead, .dead, .dead, .dead, .dead, .dead, .dead, .dead, .dead, .cell (.ro StepT cs), I cs.length, I i, .dead, .dead, .dead, .dead, .dead, .dead, .dead, .dead, .dead, .dead] [])
      (fun j _ => errL stpE (cs.drop j) = errL stpE cs) () (Le.mk [] [] rfl rfl rfl ?_) rfl fun j _ hj hi2 => ?_
    · repeat' first | exact trivial | exact ⟨rfl, rfl⟩ | refine And.intro ?_ ?_
    repeat' first
      | (refine Go.mk ?_; conv => whnf)
      | refine Need.go ?_ ?_
      | refine NilG.go (fun _ => ?_) (fun _ => ?_)
      | refine Br.dec (fun _ => ?_) (fun _ => ?_)
      | refine Br.go (fun _ => ?_) (fun _ => ?_)
      | refine draw_go hT hP mixed ?_
      | refine round_go hT hP ?_
    all_goals clear hT hP
    · rename_i g
      have g : (j : Int) < (cs.length : Int) := g
      show 0 ≤ (j : Int) ∧ (j : Int) < (cs.length : Int)
      omega
    · rename_i g g2
      have g : (j : Int) < (cs.length : Int) := g
      have g2 : (stpE (cs.getD j (dflt StepT)) != 0) = true := g2
      have g3 : stpE (cs.getD j (dflt StepT)) ≠ 0 := by simpa using g2
      have e : stpE (cs.getD j (dflt StepT)) = cycE (cb, ca, cr, cs) := by
        rw [hD, ← hi2, errL_no (dflt StepT) (by omega) g3]
      refine .mk [] [] _ rfl rfl rfl rfl rfl rfl (imm_int ?_)
      show stpE (cs.getD j (dflt StepT)) = cycsE l
      rw [e]; exact hH _ hc (by rw [← e]; exact g3) hk2
    · rename_i g g2
      have g : (j : Int) < (cs.length : Int) := g
      have g2 : (stpE (cs.getD j (dflt StepT)) != 0) = false := g2
      apply Exists.intro
      apply Exists.intro ()
      refine And.intro (And.intro ?lt305 (And.intro ?ei305 ?inv305)) (Le.mk [] [] rfl rfl ?hh305 ?ht305)
      case hh305 => exact rfl
      case ht305 => repeat' first | exact trivial | exact ⟨rfl, rfl⟩ | refine And.intro ?_ ?_
      case lt305 => omega
      case ei305 => exact up_i (by omega)
      exact (errL_ok (dflt StepT) (by omega) (by simpa using g2)).symm.trans hi2
    · rename_i g
      have g : ¬ (j : Int) < (cs.length : Int) := g
      have e : cycE (cb, ca, cr, cs) = 0 := by
        rw [hD, ← hi2, List.drop_of_length_le (by omega)]; rfl
      apply Exists.intro
      apply Exists.intro ()
      refine And.intro (And.intro ?lt317 (And.intro ?ei317 ?inv317)) (Le.mk [] [] rfl rfl ?hh317 ?ht317)
      case hh317 => exact rfl
      case ht317 => repeat' first | exact trivial | exact ⟨rfl, rfl⟩ | refine And.intro ?_ ?_
      case lt317 => omega
      case ei317 => exact up_i (by omega)
      exact hN _ hc e hk2
  · have hn : cs.length ≤ 6 := headE_len hE
    have hD : cycE (cb, ca, cr, cs) = errL stpE cs := if_pos hE
    have hk2 : k < l.length := by omega
    refine up_go hT hP (A := Unit) cs.length (fun i _ => St.mk [.dead, .dead, .dead, .dead, .dead, .dead, .dead, .dead, .dead, .dead, .dead, .cell (.ro CycT l), I l.length, I k, .dead, .dead, .dead, .dead, .dead, .dead, .dead, .dead, .dead, .dead, .dead, .dead, .dead, .dead, .dead, .dead, .dead, .dead, .dead, .dead, .dead, .dead, .dead, .dead, .dead, .dead, .dead, .dead, .dead, .dead, .dead, .dead, .dead, .dead, .dead, .dead, .dead, .dead, .dead, .dead, .dead, .dead, .dead, .dead, .dead, .dead, .dead, .dead, .dead, .dead, .dead, .dead, .cell (.ro StepT cs), I cs.length, I i, .dead, .dead, .dead, .dead, .dead, .dead, .dead, .dead, .dead, .dead] [])
      (fun j _ => errL stpE (cs.drop j) = errL stpE cs) () (Le.mk [] [] rfl rfl rfl ?_) rfl fun j _ hj hi2 => ?_
    · repeat' first | exact trivial | exact ⟨rfl, rfl⟩ | refine And.intro ?_ ?_
    repeat' first
      | (refine Go.mk ?_; conv => whnf)
      | refine Need.go ?_ ?_
      | refine NilG.go (fun _ => ?_) (fun _ => ?_)
      | refine Br.dec (fun _ => ?_) (fun _ => ?_)
      | refine Br.go (fun _ => ?_) (fun _ => ?_)
      | refine draw_go hT hP mixed ?_
      | refine round_go hT hP ?_
    all_goals clear hT hP
    · rename_i g
      have g : (j : Int) < (cs.length : Int) := g
      show 0 ≤ (j : Int) ∧ (j : Int) < (cs.length : Int)
      omega
    · rename_i g g2
      have g : (j : Int) < (cs.length : Int) := g
      have g2 : (stpE (cs.getD j (dflt StepT)) != 0) = true := g2
      have g3 : stpE (cs.getD j (dflt StepT)) ≠ 0 := by simpa using g2
      have e : stpE (cs.getD j (dflt StepT)) = cycE (cb, ca, cr, cs) := by
        rw [hD, ← hi2, errL_no (dflt StepT) (by omega) g3]
      refine .mk [] [] _ rfl rfl rfl rfl rfl rfl (imm_int ?_)
      show stpE (cs.getD j (dflt StepT)) = cycsE l
      rw [e]; exact hH _ hc (by rw [← e]; exact g3) hk2
    · rename_i g g2
      have g : (j : Int) < (cs.length : Int) := g
      have g2 : (stpE (cs.getD j (dflt StepT)) != 0) = false := g2
      apply Exists.intro
      apply Exists.intro ()
      refine And.intro (And.intro ?lt356 (And.intro ?ei356 ?inv356)) (Le.mk [] [] rfl rfl ?hh356 ?ht356)
      case hh356 => exact rfl
      case ht356 => repeat' first | exact trivial | exact ⟨rfl, rfl⟩ | refine And.intro ?_ ?_
      case lt356 => omega
      case ei356 => exact up_i (by omega)
      exact (errL_ok (dflt StepT) (by omega) (by simpa using g2)).symm.trans hi2
    · rename_i g
      have g : ¬ (j : Int) < (cs.length : Int) := g
      have e : cycE (cb, ca, cr, cs) = 0 := by
        rw [hD, ← hi2, List.drop_of_length_le (by omega)]; rfl
      apply Exists.intro
      apply Exists.intro ()
      refine And.intro (And.intro ?lt368 (And.intro ?ei368 ?inv368)) (Le.mk [] [] rfl rfl ?hh368 ?ht368)
      case hh368 => exact rfl
      case ht368 => repeat' first | exact trivial | exact ⟨rfl, rfl⟩ | refine And.intro ?_ ?_
      case lt368 => omega
      case ei368 => exact up_i (by omega)
      exact hN _ hc e hk2
  · rename_i g
    have g : ¬ (k : Int) < (l.length : Int) := by assumption
    refine .mk [] [] _ rfl rfl rfl rfl rfl rfl (imm_int ?_)
    show 0 = cycsE l
    rw [hC, ← hi, List.drop_of_length_le (by omega)]; rfl

end Go.Proofs.Ytanaaecfghmmaaa

/- Wires: which are so. -/
namespace Go.Proofs.Ytanaaecfghmmaaa
open Go.Fw
set_option linter.unusedVariables false
set_option linter.unusedSimpArgs false
set_option linter.constructorNameAsVariable false
set_option maxRecDepth 100000

theorem fstG_any {α : Type} (p : α → Bool) : ∀ (l : List α) (k : Nat), decide (fstG p l k ≥ 0) = l.any p
  | [], k => rfl
  | x :: r, k => by
    unfold fstG
    by_cases h : p x = true
    · rw [if_pos h, List.any_cons, h, decide_eq_true (by omega)]; rfl
    · rw [if_neg h, List.any_cons, fstG_any p r (k + 1)]
      have : p x = false := by simpa using h
      rw [this]; rfl
theorem fst_any {α : Type} (p : α → Bool) (l : List α) : decide (fstI p l ≥ 0) = l.any p := fstG_any p l 0
def irqS : ByteArray := ⟨#[46, 105, 114, 113]⟩
def cpuIrq : ByteArray := ⟨#[99, 112, 117, 46, 105, 114, 113]⟩
def wireB (s : ByteArray) (w : Wr) : Bool := strEq w.1 s
def heardB (c : Cv) (w : Wr) : Bool := bif strEq w.1 (c.1 ++ irqS) then strEq w.2 cpuIrq else false
def looseB (c : Cv) (w : Wr) : Bool := strEq w.1 (c.1 ++ irqS)
def nameOk (c : Cv) : Prop := c.1.size < 4611686018427387900

def locRd : List V1 → List Blk → Option (Wr × ByteArray) := fun a b => match a, b with
  | [.agg [.imm (.string wa), .imm (.string wb)], .c (.ptr 0 0)], [.var [.imm (.string s)]] => some ((wa, wb), s)
  | _, _ => none
theorem locRd_ok {a : List V1} {b : List Blk} {x : Wr × ByteArray} (h : locRd a b = some x) : a = [.agg [.imm (.string x.1.1), .imm (.string x.1.2)], .c (.ptr 0 0)] ∧ b = [.var [.imm (.string x.2)]] := by
  unfold locRd at h
  split at h
  · injection h with h; subst h; exact ⟨rfl, rfl⟩
  · cases h
def locS : WSpec := ⟨Wr × ByteArray, fun x => [.agg [.imm (.string x.1.1), .imm (.string x.1.2)], .c (.ptr 0 0)], fun x => [.var [.imm (.string x.2)]], locRd,
  fun x => (some ((fun _ => True) x.2), .cell (bv (wireB x.2 x.1)), [some (.var [.imm (.string x.2)])], [])⟩
structure loX where
  l : List Wr
  d : ByteArray
def hecRd : List V1 → List Blk → Option (Wr × Cv) := fun a b => match a, b with
  | [.agg [.imm (.string wa), .imm (.string wb)], .c (.ptr 0 0)], [.var [.imm (.string cn), .imm (.int .i64 ck), .imm (.int .i64 cb), .imm (.int .i64 cs), .ro (.int .u8) cd]] => some ((wa, wb), (cn, ck, cb, cs, cd))
  | _, _ => none
theorem hecRd_ok {a : List V1} {b : List Blk} {x : Wr × Cv} (h : hecRd a b = some x) : a = [.agg [.imm (.string x.1.1), .imm (.string x.1.2)], .c (.ptr 0 0)] ∧ b = [.var [.imm (.string x.2.1), iv .i64 x.2.2.1, iv .i64 x.2.2.2.1, iv .i64 x.2.2.2.2.1, .ro (.int .u8) x.2.2.2.2.2]] := by
  unfold hecRd at h
  split at h
  · injection h with h; subst h; exact ⟨rfl, rfl⟩
  · cases h
def hecS : WSpec := ⟨Wr × Cv, fun x => [.agg [.imm (.string x.1.1), .imm (.string x.1.2)], .c (.ptr 0 0)], fun x => [.var [.imm (.string x.2.1), iv .i64 x.2.2.1, iv .i64 x.2.2.2.1, iv .i64 x.2.2.2.2.1, .ro (.int .u8) x.2.2.2.2.2]], hecRd,
  fun x => (some ((nameOk) x.2), .cell (bv (heardB x.2 x.1)), [some (.var [.imm (.string x.2.1), iv .i64 x.2.2.1, iv .i64 x.2.2.2.1, iv .i64 x.2.2.2.2.1, .ro (.int .u8) x.2.2.2.2.2])], [])⟩
structure heX where
  l : List Wr
  d : Cv
def bfcRd : List V1 → List Blk → Option (Wr × Cv) := fun a b => match a, b with
  | [.agg [.imm (.string wa), .imm (.string wb)], .c (.ptr 0 0)], [.var [.imm (.string cn), .imm (.int .i64 ck), .imm (.int .i64 cb), .imm (.int .i64 cs), .ro (.int .u8) cd]] => some ((wa, wb), (cn, ck, cb, cs, cd))
  | _, _ => none
theorem bfcRd_ok {a : List V1} {b : List Blk} {x : Wr × Cv} (h : bfcRd a b = some x) : a = [.agg [.imm (.string x.1.1), .imm (.string x.1.2)], .c (.ptr 0 0)] ∧ b = [.var [.imm (.string x.2.1), iv .i64 x.2.2.1, iv .i64 x.2.2.2.1, iv .i64 x.2.2.2.2.1, .ro (.int .u8) x.2.2.2.2.2]] := by
  unfold bfcRd at h
  split at h
  · injection h with h; subst h; exact ⟨rfl, rfl⟩
  · cases h
def bfcS : WSpec := ⟨Wr × Cv, fun x => [.agg [.imm (.string x.1.1), .imm (.string x.1.2)], .c (.ptr 0 0)], fun x => [.var [.imm (.string x.2.1), iv .i64 x.2.2.1, iv .i64 x.2.2.2.1, iv .i64 x.2.2.2.2.1, .ro (.int .u8) x.2.2.2.2.2]], bfcRd,
  fun x => (some ((nameOk) x.2), .cell (bv (looseB x.2 x.1)), [some (.var [.imm (.string x.2.1), iv .i64 x.2.2.1, iv .i64 x.2.2.2.1, iv .i64 x.2.2.2.2.1, .ro (.int .u8) x.2.2.2.2.2])], [])⟩
structure bfX where
  l : List Wr
  d : Cv
end Go.Proofs.Ytanaaecfghmmaaa

/- Instructions of the same name and mode (printed by genix2.py). -/
namespace Go.Proofs.Ytanaaecfghmmaaa
open Go.Fw
set_option linter.unusedVariables false
set_option linter.unusedSimpArgs false
set_option linter.constructorNameAsVariable false
set_option maxRecDepth 100000

def keyB (x y : Ins) : Bool := bif strEq y.2.1 x.2.1 then decide (y.2.2.1 = x.2.2.1) else false

def tkcRd : List V1 → List Blk → Option (Ins × Ins) := fun a b => match a, b with
  | [.agg [.imm (.int .i64 eo), .imm (.string en), .imm (.int .i64 em), .ro (.pair (.int .i64) (.pair (.int .i64) (.pair (.int .i64) (.sl (.pair (.int .i64) (.pair (.int .i64) (.pair (.int .i64) (.int .i64)))))))) ec], .c (.ptr 0 0)], [.var [.imm (.int .i64 co), .imm (.string cn), .imm (.int .i64 cm), .ro (.pair (.int .i64) (.pair (.int .i64) (.pair (.int .i64) (.sl (.pair (.int .i64) (.pair (.int .i64) (.pair (.int .i64) (.int .i64)))))))) cc]] => some ((eo, en, em, ec), (co, cn, cm, cc))
  | _, _ => none
theorem tkcRd_ok {a : List V1} {b : List Blk} {x : Ins × Ins} (h : tkcRd a b = some x) : a = [.agg [iv .i64 x.1.1, .imm (.string x.1.2.1), iv .i64 x.1.2.2.1, .ro CycT x.1.2.2.2], .c (.ptr 0 0)] ∧ b = [.var [iv .i64 x.2.1, .imm (.string x.2.2.1), iv .i64 x.2.2.2.1, .ro CycT x.2.2.2.2]] := by
  unfold tkcRd at h
  split at h
  · injection h with h; subst h; exact ⟨rfl, rfl⟩
  · cases h
def tkcS : WSpec := ⟨Ins × Ins, fun x => [.agg [iv .i64 x.1.1, .imm (.string x.1.2.1), iv .i64 x.1.2.2.1, .ro CycT x.1.2.2.2], .c (.ptr 0 0)], fun x => [.var [iv .i64 x.2.1, .imm (.string x.2.2.1), iv .i64 x.2.2.2.1, .ro CycT x.2.2.2.2]], tkcRd,
  fun x => (some ((fun _ => True) x.2), .cell (bv (keyB x.2 x.1)), [some (.var [iv .i64 x.2.1, .imm (.string x.2.2.1), iv .i64 x.2.2.2.1, .ro CycT x.2.2.2.2])], [])⟩
theorem tkc_ok : GoodF Try.prog 58 tkcS.spec := by
  have hT := tab_ok (fs := []) tree_ok
  have hP : SpecsOk Try.prog (tab tree []) := specs_nil
  refine tkcS.good (fn := Try.f58) hT hP Try.func58 (by kernel_rfl) rfl (fun _ _ _ h => tkcRd_ok h) fun (x : Ins × Ins) hq => ?_
  have hq : (fun _ => True) x.2 := hq _ rfl
  repeat' first
    | (refine Go.mk ?_; conv => whnf)
    | refine Need.go ?_ ?_
    | refine NilG.go (fun _ => ?_) (fun _ => ?_)
    | refine Br.dec (fun _ => ?_) (fun _ => ?_)
    | refine Br.go (fun _ => ?_) (fun _ => ?_)
    | refine draw_go hT hP mixed ?_
    | refine round_go hT hP ?_
  all_goals clear hT hP
  all_goals first
    | (rename_i g
       have g : strEq x.1.2.1 x.2.2.1 = true := g
       refine .mk [] [0] _ rfl rfl rfl rfl rfl rfl (imm_bool ?_)
       show _ = bif strEq x.1.2.1 x.2.2.1 then decide (x.1.2.2.1 = x.2.2.2.1) else false
       rw [g]; rfl)
    | (rename_i g
       have g : strEq x.1.2.1 x.2.2.1 = false := g
       refine .mk [] [0] _ rfl rfl rfl rfl rfl rfl (imm_bool ?_)
       show _ = bif strEq x.1.2.1 x.2.2.1 then decide (x.1.2.2.1 = x.2.2.2.1) else false
       rw [g]; rfl)
    | skip
structure tkX where
  l : List Ins
  d : Ins
def tkRd : List V1 → List Blk → Option tkX := fun a b => match a, b with
  | [.c (.ro (.pair (.int .i64) (.pair .str (.pair (.int .i64) (.sl (.pair (.int .i64) (.pair (.int .i64) (.pair (.int .i64) (.sl (.pair (.int .i64) (.pair (.int .i64) (.pair (.int .i64) (.int .i64))))))))))))  l), .c (.fn 58 [0])], [.var [.imm (.int .i64 co), .imm (.string cn), .imm (.int .i64 cm), .ro (.pair (.int .i64) (.pair (.int .i64) (.pair (.int .i64) (.sl (.pair (.int .i64) (.pair (.int .i64) (.pair (.int .i64) (.int .i64)))))))) cc]] => some ⟨l, (co, cn, cm, cc)⟩
  | _, _ => none
theorem tkRd_ok {a : List V1} {b : List Blk} {x : tkX} (h : tkRd a b = some x) : a = [.c (.ro InsT x.l), .c (.fn 58 [0])] ∧ b = [.var [iv .i64 x.d.1, .imm (.string x.d.2.1), iv .i64 x.d.2.2.1, .ro CycT x.d.2.2.2]] := by
  unfold tkRd at h
  split at h
  · injection h with h; subst h; exact ⟨rfl, rfl⟩
  · cases h
def tkiS : WSpec := ⟨tkX, fun x => [.c (.ro InsT x.l), .c (.fn 58 [0])], fun x => [.var [iv .i64 x.d.1, .imm (.string x.d.2.1), iv .i64 x.d.2.2.1, .ro CycT x.d.2.2.2]], tkRd,
  fun x => (some (x.l.length ≤ 4611686018427387904 ∧ (fun _ => True) x.d), I (fstI (keyB x.d) x.l), [some (.var [iv .i64 x.d.1, .imm (.string x.d.2.1), iv .i64 x.d.2.2.1, .ro CycT x.d.2.2.2])], [])⟩
theorem tki_ok : GoodF Try.prog 63 tkiS.spec := by
  have hT := tab_ok (fs := [(58, tkcS.spec)]) tree_ok
  have hP : SpecsOk Try.prog (tab tree [(58, tkcS.spec)]) := specs_cons tkc_ok specs_nil
  refine tkiS.good (fn := Try.f63) hT hP Try.func63 (by kernel_rfl) rfl (fun _ _ _ h => tkRd_ok h) fun (x : tkX) hq => ?_
  obtain ⟨hl, hq⟩ : x.l.length ≤ 4611686018427387904 ∧ (fun _ => True) x.d := hq _ rfl
  obtain ⟨l, d⟩ := x
  have hl : l.length ≤ 4611686018427387904 := hl
  repeat' first
    | (refine Go.mk ?_; conv => whnf)
    | refine Need.go ?_ ?_
    | refine NilG.go (fun _ => ?_) (fun _ => ?_)
    | refine Br.dec (fun _ => ?_) (fun _ => ?_)
    | refine Br.go (fun _ => ?_) (fun _ => ?_)
    | refine draw_go hT hP mixed ?_
    | refine round_go hT hP ?_
  refine up_go hT hP (A := Unit) l.length (fun i _ => St.mk [.cell (.ro InsT l), .cell (.fn 58 [0]), .dead, .dead, .dead, .dead, .dead, I l.length, I i, .dead, .dead, .dead, .dead, .dead, .dead, .dead, .dead, .dead, .dead] [some (.var [iv .i64 d.1, .imm (.string d.2.1), iv .i64 d.2.2.1, .ro CycT d.2.2.2])])
    (fun k _ => fstG (keyB d) (l.drop k) k = fstI (keyB d) l) () (Le.mk [] [0] rfl rfl rfl ?_) rfl fun k _ hk hi => ?_
  · repeat' first | exact trivial | exact ⟨rfl, rfl⟩ | refine And.intro ?_ ?_
  repeat' first
    | (refine Go.mk ?_; conv => whnf)
    | refine Need.go ?_ ?_
    | refine NilG.go (fun _ => ?_) (fun _ => ?_)
    | refine Br.dec (fun _ => ?_) (fun _ => ?_)
    | refine Br.go (fun _ => ?_) (fun _ => ?_)
    | refine draw_go hT hP mixed ?_
    | refine round_go hT hP ?_
  all_goals clear hT hP
  · rename_i g1
    have g1 : (k : Int) < (l.length : Int) := g1
    show 0 ≤ (k : Int) ∧ (k : Int) < (l.length : Int)
    omega
  · first | exact hq | exact trivial
  · rename_i g1 g2
    have g1 : (k : Int) < (l.length : Int) := g1
    exact .mk [] [0] _ rfl rfl rfl rfl rfl rfl (imm_int (fst_hit (dflt InsT) (by omega) g2 hi))
  · rename_i g1 g2
    have g1 : (k : Int) < (l.length : Int) := g1
    have hp : ¬ keyB d (l.getD k (dflt InsT)) = true := by
      have g2 : keyB d (l.getD k (dflt InsT)) = false := g2
      rw [g2]; decide
    apply Exists.intro
    apply Exists.intro ()
    refine And.intro (And.intro ?lt101 (And.intro ?ei101 ?inv101)) (Le.mk [] [0] rfl rfl ?hh101 ?ht101)
    case hh101 => exact rfl
    case ht101 => repeat' first | exact trivial | exact ⟨rfl, rfl⟩ | refine And.intro ?_ ?_
    case lt101 => omega
    case ei101 => exact up_i (by omega)
    exact fst_miss (dflt InsT) (by omega) hp hi
  · rename_i g1
    have g1 : ¬ (k : Int) < (l.length : Int) := g1
    exact .mk [] [0] _ rfl rfl rfl rfl rfl rfl (imm_int (fst_none (by omega) hi))

def tktS : WSpec := ⟨tkX, fun x => [.c (.ro InsT x.l), .c (.fn 58 [0])], fun x => [.var [iv .i64 x.d.1, .imm (.string x.d.2.1), iv .i64 x.d.2.2.1, .ro CycT x.d.2.2.2]], tkRd,
  fun x => (some (x.l.length ≤ 4611686018427387904 ∧ (fun _ => True) x.d), .cell (bv (x.l.any (keyB x.d))), [some (.var [iv .i64 x.d.1, .imm (.string x.d.2.1), iv .i64 x.d.2.2.1, .ro CycT x.d.2.2.2])], [])⟩
theorem tkt_ok : GoodF Try.prog 57 tktS.spec := by
  have hT := tab_ok (fs := [(63, tkiS.spec)]) tree_ok
  have hP : SpecsOk Try.prog (tab tree [(63, tkiS.spec)]) := specs_cons tki_ok specs_nil
  refine tktS.good (fn := Try.f57) hT hP Try.func57 (by kernel_rfl) rfl (fun _ _ _ h => tkRd_ok h) fun (x : tkX) hq => ?_
  have hq : x.l.length ≤ 4611686018427387904 ∧ (fun _ => True) x.d := hq _ rfl
  obtain ⟨l, d⟩ := x
  repeat' first
    | (refine Go.mk ?_; conv => whnf)
    | refine Need.go ?_ ?_
    | refine NilG.go (fun _ => ?_) (fun _ => ?_)
    | refine Br.dec (fun _ => ?_) (fun _ => ?_)
    | refine Br.go (fun _ => ?_) (fun _ => ?_)
    | refine draw_go hT hP mixed ?_
    | refine round_go hT hP ?_
  all_goals clear hT hP
  · first | exact hq | exact trivial
  · exact .mk [] [0] _ rfl rfl rfl rfl rfl rfl (imm_bool (fst_any (keyB d) l))

end Go.Proofs.Ytanaaecfghmmaaa

/- table.Check: what is wrong with a processor. -/
namespace Go.Proofs.Ytanaaecfghmmaaa
open Go.Fw
set_option linter.unusedVariables false
set_option linter.unusedSimpArgs false
set_option linter.constructorNameAsVariable false
set_option maxRecDepth 100000

def isOp (c : Cyc) : Bool := bif decide (c.1 = 1) then decide (c.2.1 = 0) else false
def operI (l : List Cyc) : Int := ((l.filter isOp).length : Nat)
theorem take_snoc2 {α : Type} {l : List α} {k : Nat} (d : α) (h : k < l.length) : l.take (k + 1) = l.take k ++ [l.getD k d] := by
  rw [List.take_add_one, List.getD_eq_getElem?_getD, List.getElem?_eq_getElem h]; rfl
theorem oper_yes {l : List Cyc} {k : Nat} (h : k < l.length) (h2 : isOp (l.getD k (dflt CycT)) = true) : ((l.take k).filter isOp).length + 1 = ((l.take (k + 1)).filter isOp).length := by
  rw [take_snoc2 (dflt CycT) h, List.filter_append, List.filter_cons, if_pos h2, List.length_append]; rfl
theorem oper_no {l : List Cyc} {k : Nat} (h : k < l.length) (h2 : isOp (l.getD k (dflt CycT)) = false) : ((l.take k).filter isOp).length = ((l.take (k + 1)).filter isOp).length := by
  rw [take_snoc2 (dflt CycT) h, List.filter_append, List.filter_cons, if_neg (by rw [h2]; decide), List.length_append]; rfl
def toperS : PSpec := ⟨[⟨false, .sl CycT⟩], fun (l, _) => (some (List.length l ≤ 1000), I (operI l), [])⟩
theorem toper_ok : GoodF Try.prog 60 toperS.spec := by
  have hT := tab_ok (fs := []) tree_ok
  have hP : SpecsOk Try.prog (tab tree []) := specs_nil
  refine toperS.good (fn := Try.f60) hT hP Try.func60 (by kernel_rfl) rfl fun (l : List Cyc) hq => ?_
  have hl : l.length ≤ 1000 := hq _ rfl
  clear hq
  repeat' first
    | (refine Go.mk ?_; conv => whnf)
    | refine Need.go ?_ ?_
    | refine NilG.go (fun _ => ?_) (fun _ => ?_)
    | refine Br.dec (fun _ => ?_) (fun _ => ?_)
    | refine Br.go (fun _ => ?_) (fun _ => ?_)
    | refine draw_go hT hP mixed ?_
    | refine round_go hT hP ?_
  refine up_go hT hP (A := Int) l.length (fun i n => St.mk [.dead, .dead, .dead, I n, .dead, .dead, .cell (.ro CycT l), I l.length, I i, .dead, .dead, .dead, .dead, .dead, .dead, .dead, .dead, .dead, .dead, .dead, .dead, .dead, .dead, .dead] [])
    (fun k n => n = (((l.take k).filter isOp).length : Nat)) 0 (Le.mk [] [] rfl rfl rfl ?_) rfl fun k n hk hi => ?_
  · repeat' first | exact trivial | exact ⟨rfl, rfl⟩ | refine And.intro ?_ ?_
  repeat' first
    | (refine Go.mk ?_; conv => whnf)
    | refine Need.go ?_ ?_
    | refine NilG.go (fun _ => ?_) (fun _ => ?_)
    | refine Br.dec (fun _ => ?_) (fun _ => ?_)
    | refine Br.go (fun _ => ?_) (fun _ => ?_)
    | refine draw_go hT hP mixed ?_
    | refine round_go hT hP ?_
  all_goals clear hT hP
  all_goals have hf := List.length_filter_le isOp (l.take k)
  all_goals rw [List.length_take] at hf
  · rename_i g
    have g : (k : Int) < (l.length : Int) := g
    show 0 ≤ (k : Int) ∧ (k : Int) < (l.length : Int)
    omega
  · rename_i g g1 g2
    have g : (k : Int) < (l.length : Int) := g
    have h2 : isOp (l.getD k (dflt CycT)) = true := by
      have g1 : (l.getD k (dflt CycT)).1 = 1 := g1
      have g2 : (l.getD k (dflt CycT)).2.1 = 0 := g2
      unfold isOp; rw [decide_eq_true g1, decide_eq_true g2]; rfl
    apply Exists.intro
    apply Exists.intro _
    refine And.intro (And.intro ?lt58 (And.intro ?ei58 ?inv58)) (Le.mk [] [] rfl rfl ?hh58 ?ht58)
    case hh58 => exact rfl
    case ht58 => repeat' first | exact trivial | exact ⟨rfl, rfl⟩ | refine And.intro ?_ ?_
    case lt58 => omega
    case ei58 => exact up_i (by omega)
    have e : IntKind.i64.wrap (n + 1) = n + 1 := w64 (by omega) (by omega)
    have e2 := oper_yes (show k < l.length by omega) h2
    rw [e]; omega
  · rename_i g g1 g2
    have g : (k : Int) < (l.length : Int) := g
    have h2 : isOp (l.getD k (dflt CycT)) = false := by
      have g1 : (l.getD k (dflt CycT)).1 = 1 := g1
      have g2 : ¬ (l.getD k (dflt CycT)).2.1 = 0 := g2
      unfold isOp; rw [decide_eq_true g1, decide_eq_false g2]; rfl
    apply Exists.intro
    apply Exists.intro _
    refine And.intro (And.intro ?lt74 (And.intro ?ei74 ?inv74)) (Le.mk [] [] rfl rfl ?hh74 ?ht74)
    case hh74 => exact rfl
    case ht74 => repeat' first | exact trivial | exact ⟨rfl, rfl⟩ | refine And.intro ?_ ?_
    case lt74 => omega
    case ei74 => exact up_i (by omega)
    have e2 := oper_no (show k < l.length by omega) h2
    omega
  · rename_i g g1
    have g : (k : Int) < (l.length : Int) := g
    have h2 : isOp (l.getD k (dflt CycT)) = false := by
      have g1 : ¬ (l.getD k (dflt CycT)).1 = 1 := g1
      unfold isOp; rw [decide_eq_false g1]; rfl
    apply Exists.intro
    apply Exists.intro _
    refine And.intro (And.intro ?lt88 (And.intro ?ei88 ?inv88)) (Le.mk [] [] rfl rfl ?hh88 ?ht88)
    case hh88 => exact rfl
    case ht88 => repeat' first | exact trivial | exact ⟨rfl, rfl⟩ | refine And.intro ?_ ?_
    case lt88 => omega
    case ei88 => exact up_i (by omega)
    have e2 := oper_no (show k < l.length by omega) h2
    omega
  · rename_i g
    have g : ¬ (k : Int) < (l.length : Int) := g
    refine .mk [] [] _ rfl rfl rfl rfl rfl rfl (imm_int ?_)
    rw [hi, List.take_of_length_le (by omega)]; rfl

end Go.Proofs.Ytanaaecfghmmaaa

/- table.Check. -/
namespace Go.Proofs.Ytanaaecfghmmaaa
open Go.Fw
set_option linter.unusedVariables false
set_option linter.unusedSimpArgs false
set_option linter.constructorNameAsVariable false
set_option maxRecDepth 100000

/-- what is wrong with an instruction behind others -/
def insC (pre : List Ins) (k : Nat) (prev : Int) (x : Ins) : Int :=
  if x.1 < 0 ∨ x.1 > 255 then 1 else if 0 < k ∧ x.1 ≤ prev then 9 else if nameB (bytesOf x.2.1) = false then 15 else if sizeI x.2.2.1 < 0 then 8
  else if pre.any (keyB x) = true then 5 else if cycsE x.2.2.2 ≠ 0 then cycsE x.2.2.2 else if operI x.2.2.2 ≠ sizeI x.2.2.1 then 3 else 0
def insE (l : List Ins) (k : Nat) : Int := insC (l.take k) k (l.getD (k - 1) (dflt InsT)).1 (l.getD k (dflt InsT))
theorem nz_of {x : Int} (h : (x != 0) = true) : x ≠ 0 := by simpa using h
theorem ze_of {x : Int} (h : (x != 0) = false) : x = 0 := by simpa using h
theorem insC_cyc {pre : List Ins} {k : Nat} {pv xo xm : Int} {xs : ByteArray} {xc : List Cyc} (h1 : ¬ xo < 0) (h2 : ¬ xo > 255) (h3 : ¬ (0 < k ∧ xo ≤ pv)) (h4 : (!nameB (bytesOf xs)) = false) (h5 : ¬ sizeI xm < 0) (h6 : pre.any (keyB (xo, xs, xm, xc)) = false) (h7 : (cycsE xc != 0) = true) : insC pre k pv (xo, xs, xm, xc) = cycsE xc := by
  unfold insC
  rw [if_neg (show ¬ (xo < 0 ∨ xo > 255) from fun h => h.elim h1 h2), if_neg (show ¬ (0 < k ∧ xo ≤ pv) from h3), if_neg (show ¬ nameB (bytesOf xs) = false from fun h => by rw [h] at h4; cases h4), if_neg (show ¬ sizeI xm < 0 from h5), if_neg (show ¬ pre.any (keyB (xo, xs, xm, xc)) = true from fun h => by rw [h] at h6; cases h6), if_pos (show cycsE xc ≠ 0 by simpa using h7)]
theorem insC_op {pre : List Ins} {k : Nat} {pv xo xm : Int} {xs : ByteArray} {xc : List Cyc} (h1 : ¬ xo < 0) (h2 : ¬ xo > 255) (h3 : ¬ (0 < k ∧ xo ≤ pv)) (h4 : (!nameB (bytesOf xs)) = false) (h5 : ¬ sizeI xm < 0) (h6 : pre.any (keyB (xo, xs, xm, xc)) = false) (h7 : (cycsE xc != 0) = false) (h8 : (operI xc != sizeI xm) = true) : insC pre k pv (xo, xs, xm, xc) = 3 := by
  unfold insC
  rw [if_neg (show ¬ (xo < 0 ∨ xo > 255) from fun h => h.elim h1 h2), if_neg (show ¬ (0 < k ∧ xo ≤ pv) from h3), if_neg (show ¬ nameB (bytesOf xs) = false from fun h => by rw [h] at h4; cases h4), if_neg (show ¬ sizeI xm < 0 from h5), if_neg (show ¬ pre.any (keyB (xo, xs, xm, xc)) = true from fun h => by rw [h] at h6; cases h6), if_neg (show ¬ cycsE xc ≠ 0 by simpa using h7), if_pos (show operI xc ≠ sizeI xm by simpa using h8)]
theorem insC_ok {pre : List Ins} {k : Nat} {pv xo xm : Int} {xs : ByteArray} {xc : List Cyc} (h1 : ¬ xo < 0) (h2 : ¬ xo > 255) (h3 : ¬ (0 < k ∧ xo ≤ pv)) (h4 : (!nameB (bytesOf xs)) = false) (h5 : ¬ sizeI xm < 0) (h6 : pre.any (keyB (xo, xs, xm, xc)) = false) (h7 : (cycsE xc != 0) = false) (h8 : (operI xc != sizeI xm) = false) : insC pre k pv (xo, xs, xm, xc) = 0 := by
  unfold insC
  rw [if_neg (show ¬ (xo < 0 ∨ xo > 255) from fun h => h.elim h1 h2), if_neg (show ¬ (0 < k ∧ xo ≤ pv) from h3), if_neg (show ¬ nameB (bytesOf xs) = false from fun h => by rw [h] at h4; cases h4), if_neg (show ¬ sizeI xm < 0 from h5), if_neg (show ¬ pre.any (keyB (xo, xs, xm, xc)) = true from fun h => by rw [h] at h6; cases h6), if_neg (show ¬ cycsE xc ≠ 0 by simpa using h7), if_neg (show ¬ operI xc ≠ sizeI xm by simpa using h8)]
def inssE (l : List Ins) : Int := errL (insE l) (List.range l.length)
def tailE (c : Cpu) : Int := errL cycsE [c.2.2.1, c.2.2.2.1, c.2.2.2.2]
def cpuE (c : Cpu) : Int := if nameB (bytesOf c.1) = false then 15 else if c.2.1.length > 256 then 2 else if inssE c.2.1 ≠ 0 then inssE c.2.1 else tailE c
theorem range_get {n k : Nat} (h : k < n) : (List.range n).getD k 0 = k := by
  rw [List.getD_eq_getElem?_getD, List.getElem?_range h]; rfl
def tcheckS : PSpec := ⟨[gCpu], fun (c, _) => (none, I (cpuE c), [])⟩
set_option maxHeartbeats 4000000 in
theorem tcheck_ok : GoodF Try.prog 21 tcheckS.spec := by
  have hT := tab_ok (fs := [(19, nameS.spec), (23, tsizeS.spec), (57, tktS.spec), (59, tcyclesS.spec), (60, toperS.spec)]) tree_ok
  have hP : SpecsOk Try.prog (tab tree [(19, nameS.spec), (23, tsizeS.spec), (57, tktS.spec), (59, tcyclesS.spec), (60, toperS.spec)]) := specs_cons tName_ok (specs_cons tSize_ok (specs_cons tkt_ok (specs_cons tcycles_ok (specs_cons toper_ok specs_nil))))
  refine tcheckS.good (fn := Try.f21) hT hP Try.func21 (by kernel_rfl) rfl fun (c : Cpu) _ => ?_
  obtain ⟨cn, ci, cr, cq, cm⟩ := c
  repeat' first
    | (refine Go.mk ?_; conv => whnf)
    | refine Need.go ?_ ?_
    | refine NilG.go (fun _ => ?_) (fun _ => ?_)
    | refine Br.dec (fun _ => ?_) (fun _ => ?_)
    | refine Br.go (fun _ => ?_) (fun _ => ?_)
    | refine draw_go hT hP mixed ?_
    | refine round_go hT hP ?_
  all_goals (try dsimp only [castL_eq] at *)
  · rename_i g
    have g : nameB (bytesOf cn) = false := by simpa using g
    refine .mk [] [] _ rfl rfl rfl rfl rfl rfl (imm_int ?_)
    exact (if_pos g : cpuE (cn, ci, cr, cq, cm) = 15).symm
  · rename_i g g2
    have g : nameB (bytesOf cn) = true := by simpa using g
    have g2 : (ci.length : Int) > 256 := g2
    refine .mk [] [] _ rfl rfl rfl rfl rfl rfl (imm_int ?_)
    show 2 = cpuE (cn, ci, cr, cq, cm)
    unfold cpuE
    rw [if_neg (by rw [g]; decide), if_pos (by show ci.length > 256; omega)]
  rename_i g1 g2
  have g1 : nameB (bytesOf cn) = true := by simpa using g1
  have hn : ci.length ≤ 256 := by have g2 : ¬ (ci.length : Int) > 256 := g2; omega
  clear g2
  have hC : ∀ e : Int, e ≠ 0 → inssE ci = e → e = cpuE (cn, ci, cr, cq, cm) := fun e h0 h1 => by
    unfold cpuE
    rw [if_neg (by rw [g1]; decide), if_neg (by show ¬ ci.length > 256; omega), if_pos (by rw [h1]; exact h0)]; exact h1.symm
  have hT2 : inssE ci = 0 → tailE (cn, ci, cr, cq, cm) = cpuE (cn, ci, cr, cq, cm) := fun h1 => by
    unfold cpuE
    rw [if_neg (by rw [g1]; decide), if_neg (by show ¬ ci.length > 256; omega), if_neg (by rw [h1]; decide)]
  refine up_go hT hP (A := Unit) ci.length (fun i _ => St.mk [.dead, .cell (.ptr 0 0), .dead, .dead, .dead, .dead, .dead, .dead, .dead, .dead, .dead, .dead, .dead, .dead, .dead, .dead, .dead, .dead, .dead, .dead, .cell (.ro InsT ci), I ci.length, I i, .dead, .dead, .dead, .dead, .dead, .dead, .dead, .dead, .dead, .dead, .dead, .dead, .dead, .dead, .dead, .dead, .dead, .dead, .dead, .dead, .dead, .dead, .dead, .dead, .dead, .dead, .dead, .dead, .dead, .dead, .dead, .dead, .dead, .dead, .dead, .dead, .dead, .dead, .dead, .dead, .dead, .dead, .dead, .dead, .dead, .dead, .dead, .dead, .dead, .dead, .dead, .dead, .dead, .dead, .dead, .dead, .dead, .dead, .dead, .dead, .dead, .dead, .dead, .dead, .dead, .dead, .dead, .dead, .dead, .dead, .dead, .dead, .dead, .dead, .dead, .dead, .dead]
      [some (.var [.imm (.string cn), .ro InsT ci, .ro CycT cr, .ro CycT cq, .ro CycT cm])])
    (fun k _ => errL (insE ci) ((List.range ci.length).drop k) = inssE ci) () (Le.mk [] [0] rfl rfl ?_ ?_) rfl fun k _ hk hi => ?_
  · exact rfl
  · repeat' first | exact trivial | exact ⟨rfl, rfl⟩ | refine And.intro ?_ ?_
  have hE : ∀ e : Int, e ≠ 0 → insE ci k = e → k < ci.length → e = cpuE (cn, ci, cr, cq, cm) := fun e h0 h1 hk => by
    refine hC e h0 ?_
    have hr : k < (List.range ci.length).length := by rw [List.length_range]; exact hk
    have e1 := range_get hk
    rw [← hi, errL_no 0 hr (by rw [e1, h1]; exact h0), e1, h1]
  have hN : insE ci k = 0 → k < ci.length → errL (insE ci) ((List.range ci.length).drop (k + 1)) = inssE ci := fun h1 hk => by
    have hr : k < (List.range ci.length).length := by rw [List.length_range]; exact hk
    rw [← hi, errL_ok 0 hr (by rw [range_get hk, h1])]
  repeat' first
    | (refine Go.mk ?_; conv => whnf)
    | refine Need.go ?_ ?_
    | refine NilG.go (fun _ => ?_) (fun _ => ?_)
    | refine Br.dec (fun _ => ?_) (fun _ => ?_)
    | refine Br.go (fun _ => ?_) (fun _ => ?_)
    | refine draw_go hT hP mixed ?_
    | refine round_go hT hP ?_
  all_goals (try dsimp only [castL_eq] at *)
  all_goals (have hp : (IntKind.i64.wrap ((k : Int) - 1)).toNat = k - 1 := by rw [w64 (by omega) (by omega)]; omega)
  all_goals (generalize hx : ci.getD (k : Int).toNat (dflt InsT) = x at *; obtain ⟨xo, xs, xm, xc⟩ := x)
  all_goals (have hx' : ci.getD k (dflt InsT) = (xo, xs, xm, xc) := hx)
  all_goals (have hI : insE ci k = insC (ci.take k) k (ci.getD (k - 1) (dflt InsT)).1 (xo, xs, xm, xc) := by unfold insE; rw [hx'])
  all_goals (have hdt : (ci.take (k : Int).toNat).drop 0 = ci.take k := rfl)
  all_goals (rw [hI] at hE hN)
  all_goals (try simp only [hp] at *)
  all_goals (generalize (ci.getD (k - 1) (dflt InsT)).1 = pv at *)
  all_goals (try rw [hdt] at *)
  all_goals first
    | exact .mk [] [] _ rfl rfl rfl rfl rfl rfl (imm_int (hE _ (nz_of (x := cycsE xc) (by assumption)) (insC_cyc (by assumption) (by assumption) (fun h => by omega) (by assumption) (by assumption) (by assumption) (by assumption)) (by omega)))
    | exact .mk [] [] _ rfl rfl rfl rfl rfl rfl (imm_int (hE _ (by decide) (insC_op (by assumption) (by assumption) (fun h => by omega) (by assumption) (by assumption) (by assumption) (by assumption) (by assumption)) (by omega)))
    | (refine .mk [] [] _ rfl rfl rfl rfl rfl rfl (imm_int (hE _ ?_ ?_ (by omega)))
       · first
           | decide
           | (have h0 : (cycsE xc != 0) = true := by assumption
              simpa using h0)
       · clear hT hP hE hN hC hT2 hi hx hx' hI
         simp [insC] at *
         try first
           | omega
           | (simp_all; done)
           | (simp_all; omega))
    | (show 0 ≤ (k : Int) ∧ (k : Int) < (ci.length : Int)
       omega)
    | (show 0 ≤ (k : Int) ∧ (k : Int) ≤ (ci.length : Int)
       omega)
    | (show 0 ≤ IntKind.i64.wrap ((k : Int) - 1) ∧ IntKind.i64.wrap ((k : Int) - 1) < (ci.length : Int)
       rw [w64 (by omega) (by omega)]; omega)
    | (refine ⟨?_, trivial⟩
       show ((ci.take k).drop 0).length ≤ 4611686018427387904
       rw [List.drop_zero, List.length_take]; omega)
    | (have h0 : (cycsE xc != 0) = false := by assumption
       show xc.length ≤ 1000
       have h1 : cycsE xc = 0 := by simpa using h0
       unfold cycsE at h1
       split at h1
       · cases h1
       · omega)
    | skip
  · apply Exists.intro
    apply Exists.intro ()
    refine And.intro (And.intro ?lt129 (And.intro ?ei129 ?inv129)) (Le.mk [] [0] rfl rfl ?hh129 ?ht129)
    case hh129 => exact rfl
    case ht129 => repeat' first | exact trivial | exact ⟨rfl, rfl⟩ | refine And.intro ?_ ?_
    case lt129 => omega
    case ei129 => exact up_i (by omega)
    exact hN (insC_ok (by assumption) (by assumption) (fun h => by omega) (by assumption) (by assumption) (by assumption) (by assumption) (by assumption)) (by omega)
  · apply Exists.intro
    apply Exists.intro ()
    refine And.intro (And.intro ?lt137 (And.intro ?ei137 ?inv137)) (Le.mk [] [0] rfl rfl ?hh137 ?ht137)
    case hh137 => exact rfl
    case ht137 => repeat' first | exact trivial | exact ⟨rfl, rfl⟩ | refine And.intro ?_ ?_
    case lt137 => omega
    case ei137 => exact up_i (by omega)
    exact hN (insC_ok (by assumption) (by assumption) (fun h => by omega) (by assumption) (by assumption) (by assumption) (by assumption) (by assumption)) (by omega)
  have h0 : inssE ci = 0 := by
    rw [← hi, List.drop_of_length_le (by rw [List.length_range]; omega)]; rfl
  have hQ := hT2 h0
  clear hE hN
  refine loop_unroll 4 ?_
  repeat' first
    | (refine Go.mk ?_; conv => whnf)
    | refine Need.go ?_ ?_
    | refine NilG.go (fun _ => ?_) (fun _ => ?_)
    | refine Br.dec (fun _ => ?_) (fun _ => ?_)
    | refine Br.go (fun _ => ?_) (fun _ => ?_)
    | refine draw_go hT hP mixed ?_
    | refine round_go hT hP ?_
  · exact of_decide_eq_true rfl
  · exact of_decide_eq_true rfl
  · rename_i g1
    have g1 : (cycsE cr != 0) = true := g1
    refine .mk [] [] _ rfl rfl rfl rfl rfl rfl (imm_int ?_)
    show cycsE cr = cpuE (cn, ci, cr, cq, cm)
    rw [← hQ]
    exact (if_neg (nz_of g1) : tailE (cn, ci, cr, cq, cm) = cycsE cr).symm
  · exact of_decide_eq_true rfl
  · exact of_decide_eq_true rfl
  · rename_i g1 g2
    have g1 : (cycsE cr != 0) = false := g1
    have g2 : (cycsE cq != 0) = true := g2
    refine .mk [] [] _ rfl rfl rfl rfl rfl rfl (imm_int ?_)
    show cycsE cq = cpuE (cn, ci, cr, cq, cm)
    rw [← hQ]
    exact (((if_pos (ze_of g1) : tailE (cn, ci, cr, cq, cm) = errL cycsE [cq, cm])).trans (if_neg (nz_of g2))).symm
  · exact of_decide_eq_true rfl
  · exact of_decide_eq_true rfl
  · rename_i g1 g2 g3
    have g1 : (cycsE cr != 0) = false := g1
    have g2 : (cycsE cq != 0) = false := g2
    have g3 : (cycsE cm != 0) = true := g3
    refine .mk [] [] _ rfl rfl rfl rfl rfl rfl (imm_int ?_)
    show cycsE cm = cpuE (cn, ci, cr, cq, cm)
    rw [← hQ]
    exact ((((if_pos (ze_of g1) : tailE (cn, ci, cr, cq, cm) = errL cycsE [cq, cm])).trans (if_pos (ze_of g2) : errL cycsE [cq, cm] = errL cycsE [cm])).trans (if_neg (nz_of g3))).symm
  · rename_i g1 g2 g3
    have g1 : (cycsE cr != 0) = false := g1
    have g2 : (cycsE cq != 0) = false := g2
    have g3 : (cycsE cm != 0) = false := g3
    refine .mk [] [] _ rfl rfl rfl rfl rfl rfl (imm_int ?_)
    show 0 = cpuE (cn, ci, cr, cq, cm)
    rw [← hQ]
    exact ((((if_pos (ze_of g1) : tailE (cn, ci, cr, cq, cm) = errL cycsE [cq, cm])).trans (if_pos (ze_of g2) : errL cycsE [cq, cm] = errL cycsE [cm])).trans (if_pos (ze_of g3) : errL cycsE [cm] = errL cycsE [])).symm

end Go.Proofs.Ytanaaecfghmmaaa

/- bakeref1.CpuErr: what the reference says is wrong with a processor. -/
namespace Go.Proofs.Ytanaaecfghmmaaa
open Go.Fw
set_option linter.unusedVariables false
set_option linter.unusedSimpArgs false
set_option linter.constructorNameAsVariable false
set_option maxRecDepth 100000

abbrev KeyT : Ty := .pair .str (.int .i64)
theorem mapGet_put {l : List (Den KeyT × Den .bool)} {k k' : Den KeyT} {v : Den .bool} : mapGet (mapPut l k v) k' = if denEq KeyT k' k = true then some v else mapGet l k' := by
  have hs : ∀ {a b : Den KeyT}, denEq KeyT a b = true ↔ a = b := fun {a b} => ⟨fun h => denEq_eq rfl h, fun h => by rw [h]; exact denEq_self rfl⟩
  induction l with
  | nil =>
    show (match denEq KeyT k' k with | true => some v | false => none) = _
    cases denEq KeyT k' k <;> rfl
  | cons p r ih =>
    obtain ⟨pk, pv⟩ := p
    by_cases h : denEq KeyT k pk = true
    · have e : mapPut ((pk, pv) :: r) k v = (k, v) :: r := by
        show (match denEq KeyT k pk with | true => (k, v) :: r | false => (pk, pv) :: mapPut r k v) = _
        rw [h]
      rw [e]
      have hk := hs.1 h
      subst hk
      show (match denEq KeyT k' k with | true => some v | false => mapGet r k') = if denEq KeyT k' k = true then some v else (match denEq KeyT k' k with | true => some pv | false => mapGet r k')
      cases denEq KeyT k' k <;> rfl
    · have h0 : denEq KeyT k pk = false := by simpa using h
      have e : mapPut ((pk, pv) :: r) k v = (pk, pv) :: mapPut r k v := by
        show (match denEq KeyT k pk with | true => (k, v) :: r | false => (pk, pv) :: mapPut r k v) = _
        rw [h0]
      rw [e]
      show (match denEq KeyT k' pk with | true => some pv | false => mapGet (mapPut r k v) k') = if denEq KeyT k' k = true then some v else (match denEq KeyT k' pk with | true => some pv | false => mapGet r k')
      rw [ih]
      by_cases h1 : denEq KeyT k' pk = true
      · have h2 : ¬ denEq KeyT k' k = true := fun h3 => h (by rw [← hs.1 h3]; exact h1)
        rw [h1]
        show some pv = if denEq KeyT k' k = true then some v else some pv
        rw [if_neg h2]
      · have h1' : denEq KeyT k' pk = false := by simpa using h1
        rw [h1']

theorem opNe (x : Int) : (x != land .i64 x 255) = decide (x < 0 ∨ x > 255) := by
  have e2 : lowF x 8 = land .i64 x 255 := by unfold lowF; rw [show IntKind.i64.wrap (shl .i64 1 (widthF 8) - 1) = 255 by decide]
  have e : land .i64 x 255 = x % 256 := by rw [← e2, lowF_mod x 8 (by decide) (by decide)]; rfl
  rw [e]
  rw [Bool.eq_iff_iff]
  simp
  omega
/-- the keys that a map holds are those of the instructions -/
def keysOf (M : List (Den KeyT × Den .bool)) (l : List Ins) : Prop := ∀ x : Ins, getOr (mapGet M (x.2.1, x.2.2.1)) false = l.any (keyB x)
theorem key_iff {x y : Ins} : keyB x y = true ↔ (x.2.1, x.2.2.1) = (y.2.1, y.2.2.1) := by
  unfold keyB
  have hs : strEq y.2.1 x.2.1 = true ↔ y.2.1 = x.2.1 := Lib.bytes_beq_iff _ _
  rw [Prod.mk.injEq]
  cases h : strEq y.2.1 x.2.1 with
  | true =>
    show decide (y.2.2.1 = x.2.2.1) = true ↔ _
    rw [decide_eq_true_eq]
    have := hs.1 h
    exact ⟨fun h2 => ⟨this.symm, h2.symm⟩, fun h2 => h2.2.symm⟩
  | false =>
    show false = true ↔ _
    exact ⟨fun h2 => (by cases h2), fun h2 => (by have := hs.2 h2.1.symm; rw [h] at this; cases this)⟩
theorem keys_put {M : List (Den KeyT × Den .bool)} {l : List Ins} {k : Nat} {y : Ins} (h : keysOf M (l.take k)) (hk : k < l.length) (e : l.getD k (dflt InsT) = y) : keysOf (mapPut M (y.2.1, y.2.2.1) true) (l.take (k + 1)) := by
  intro x
  rw [mapGet_put, take_snoc2 (dflt InsT) hk, e, List.any_append]
  have hd : denEq KeyT (x.2.1, x.2.2.1) (y.2.1, y.2.2.1) = true ↔ (x.2.1, x.2.2.1) = (y.2.1, y.2.2.1) := ⟨fun h => denEq_eq rfl h, fun h => by rw [h]; exact denEq_self rfl⟩
  by_cases hc : keyB x y = true
  · rw [if_pos (hd.2 (key_iff.1 hc))]
    show true = _
    simp [hc]
  · rw [if_neg (fun h2 => hc (key_iff.2 (hd.1 h2))), h x]
    have hc' : keyB x y = false := by simpa using hc
    simp [hc']
set_option maxHeartbeats 4000000 in
theorem cpuErr_eval : GoodF Try.prog 22 tcheckS.spec := by
  have hT := tab_ok (fs := [(20, nameS.spec), (24, tsizeS.spec), (61, tcyclesS.spec)]) tree_ok
  have hP : SpecsOk Try.prog (tab tree [(20, nameS.spec), (24, tsizeS.spec), (61, tcyclesS.spec)]) := specs_cons rNamed_ok (specs_cons rOperand_ok (specs_cons rCycles_ok specs_nil))
  refine tcheckS.good (fn := Try.f22) hT hP Try.func22 (by kernel_rfl) rfl fun (c : Cpu) _ => ?_
  obtain ⟨cn, ci, cr, cq, cm⟩ := c
  repeat' first
    | (refine Go.mk ?_; conv => whnf)
    | refine Need.go ?_ ?_
    | refine NilG.go (fun _ => ?_) (fun _ => ?_)
    | refine Br.dec (fun _ => ?_) (fun _ => ?_)
    | refine Br.go (fun _ => ?_) (fun _ => ?_)
    | refine draw_go hT hP mixed ?_
    | refine round_go hT hP ?_
  all_goals (try dsimp only [castL_eq] at *)
  · rename_i g
    have g : nameB (bytesOf cn) = false := by simpa using g
    refine .mk [] [] _ rfl rfl rfl rfl rfl rfl (imm_int ?_)
    exact (if_pos g : cpuE (cn, ci, cr, cq, cm) = 15).symm
  · rename_i g g2
    have g : nameB (bytesOf cn) = true := by simpa using g
    have g2 : (ci.length : Int) > 256 := g2
    refine .mk [] [] _ rfl rfl rfl rfl rfl rfl (imm_int ?_)
    show 2 = cpuE (cn, ci, cr, cq, cm)
    unfold cpuE
    rw [if_neg (by rw [g]; decide), if_pos (by show ci.length > 256; omega)]
  rename_i g1 g2
  have g1 : nameB (bytesOf cn) = true := by simpa using g1
  have hn : ci.length ≤ 256 := by have g2 : ¬ (ci.length : Int) > 256 := g2; omega
  clear g2
  have hC : ∀ e : Int, e ≠ 0 → inssE ci = e → e = cpuE (cn, ci, cr, cq, cm) := fun e h0 h1 => by
    unfold cpuE
    rw [if_neg (by rw [g1]; decide), if_neg (by show ¬ ci.length > 256; omega), if_pos (by rw [h1]; exact h0)]; exact h1.symm
  have hT2 : inssE ci = 0 → tailE (cn, ci, cr, cq, cm) = cpuE (cn, ci, cr, cq, cm) := fun h1 => by
    unfold cpuE
    rw [if_neg (by rw [g1]; decide), if_neg (by show ¬ ci.length > 256; omega), if_neg (by rw [h1]; decide)]
  refine up_go hT hP (A := Int × List (Den KeyT × Den .bool)) ci.length (fun i (a, M) => St.mk [.dead, .cell (.ptr 0 0), .dead, I a, .cell (.map 1), .dead, .dead, .dead, .dead, .dead, .dead, .dead, .dead, .dead, .dead, .dead, .dead, .dead, .dead, .dead, .dead, .dead, .dead, .cell (.ro InsT ci), I ci.length, I i, .dead, .dead, .dead, .dead, .dead, .dead, .dead, .dead, .dead, .dead, .dead, .dead, .dead, .dead, .dead, .dead, .dead, .dead, .dead, .dead, .dead, .dead, .dead, .dead, .dead, .dead, .dead, .dead, .dead, .dead, .dead, .dead, .dead, .dead, .dead, .dead, .dead, .dead, .dead, .dead, .dead, .dead, .dead, .dead, .dead, .dead, .dead, .dead, .dead, .dead, .dead, .dead, .dead, .dead, .dead, .dead, .dead, .dead, .dead, .dead, .dead, .dead, .dead, .dead, .dead, .dead, .dead, .dead, .dead, .dead, .dead, .dead, .dead, .dead, .dead, .dead, .dead, .dead, .dead, .dead, .dead, .dead, .dead, .dead, .dead, .dead, .dead]
      [some (.var [.imm (.string cn), .ro InsT ci, .ro CycT cr, .ro CycT cq, .ro CycT cm]), some (.mp true KeyT .bool M)])
    (fun k (a, M) => errL (insE ci) ((List.range ci.length).drop k) = inssE ci ∧ keysOf M (ci.take k) ∧ (0 < k → a = (ci.getD (k - 1) (dflt InsT)).1)) (-1, []) (Le.mk [] [0, 1] rfl rfl ?_ ?_) ⟨rfl, fun _ => rfl, fun h => absurd h (Nat.lt_irrefl _)⟩ fun k (a, M) hk hi => ?_
  · exact rfl
  · repeat' first | exact trivial | exact ⟨rfl, rfl⟩ | refine And.intro ?_ ?_
  obtain ⟨hi, hM, ha⟩ := hi
  have hE : ∀ e : Int, e ≠ 0 → insE ci k = e → k < ci.length → e = cpuE (cn, ci, cr, cq, cm) := fun e h0 h1 hk => by
    refine hC e h0 ?_
    have hr : k < (List.range ci.length).length := by rw [List.length_range]; exact hk
    have e1 := range_get hk
    rw [← hi, errL_no 0 hr (by rw [e1, h1]; exact h0), e1, h1]
  have hN : insE ci k = 0 → k < ci.length → errL (insE ci) ((List.range ci.length).drop (k + 1)) = inssE ci := fun h1 hk => by
    have hr : k < (List.range ci.length).length := by rw [List.length_range]; exact hk
    rw [← hi, errL_ok 0 hr (by rw [range_get hk, h1])]
  repeat' first
    | (refine Go.mk ?_; conv => whnf)
    | refine Need.go ?_ ?_
    | refine NilG.go (fun _ => ?_) (fun _ => ?_)
    | refine Br.dec (fun _ => ?_) (fun _ => ?_)
    | refine Br.go (fun _ => ?_) (fun _ => ?_)
    | refine draw_go hT hP mixed ?_
    | refine round_go hT hP ?_
  all_goals (try dsimp only [castL_eq] at *)
  all_goals (generalize hx : ci.getD (k : Int).toNat (dflt InsT) = x at *; obtain ⟨xo, xs, xm, xc⟩ := x)
  all_goals (have hx' : ci.getD k (dflt InsT) = (xo, xs, xm, xc) := hx)
  all_goals (have hI : insE ci k = insC (ci.take k) k (ci.getD (k - 1) (dflt InsT)).1 (xo, xs, xm, xc) := by unfold insE; rw [hx'])
  all_goals (rw [hI] at hE hN)
  all_goals (generalize (ci.getD (k - 1) (dflt InsT)).1 = pv at *)
  all_goals (try dsimp only at *)
  all_goals (have hL : getOr (mapGet M (xs, xm)) (dflt .bool) = (ci.take k).any (keyB (xo, xs, xm, xc)) := hM (xo, xs, xm, xc))
  all_goals (try simp only [hL] at *)
  all_goals (try simp only [opNe, decide_eq_false_iff_not, decide_eq_true_eq] at *)
  · show 0 ≤ (k : Int) ∧ (k : Int) < (ci.length : Int)
    omega
  all_goals first
    | exact .mk [] [] _ rfl rfl rfl rfl rfl rfl (imm_int (hE _ (nz_of (x := cycsE xc) (by assumption)) (insC_cyc (fun h => by omega) (fun h => by omega) (fun h => by omega) (by assumption) (by assumption) (by assumption) (by assumption)) (by omega)))
    | (refine .mk [] [] _ rfl rfl rfl rfl rfl rfl (imm_int (hE _ ?_ ?_ (by omega)))
       · decide
       · clear hT hP hE hN hC hT2 hi hx hx' hI hM
         simp [insC] at *
         try first
           | omega
           | (simp_all; done)
           | (simp_all; omega))
    | skip
  · have hk2 : k < ci.length := by omega
    have hx5 : xc.length ≤ 1000 := by
      have h0 : (cycsE xc != 0) = false := by assumption
      have h1 := ze_of h0
      unfold cycsE at h1
      split at h1
      · cases h1
      · omega
    have hno : ¬ (xo < 0 ∨ xo > 255) := by assumption
    refine up_go hT hP (A := Int) xc.length (fun j n => St.mk [.dead, .cell (.ptr 0 0), .dead, I xo, .cell (.map 1), .dead, .cell (.ptr 2 0), .dead, .dead, I n, .dead, .dead, .dead, .dead, .dead, .dead, .dead, .dead, .dead, .dead, .dead, .dead, .dead, .cell (.ro InsT ci), I ci.length, I k, .dead, .dead, .dead, .dead, .dead, .dead, .dead, .dead, .dead, .dead, .dead, .dead, .dead, .dead, .dead, .dead, .dead, .dead, .dead, .dead, .dead, .dead, .dead, .dead, .dead, .dead, .dead, .dead, .dead, .dead, .dead, .dead, .dead, .dead, .dead, .dead, .dead, .dead, .dead, .dead, .dead, .dead, .dead, .dead, .dead, .dead, .dead, .dead, .dead, .dead, .cell (.ro CycT xc), I xc.length, I j, .dead, .dead, .dead, .dead, .dead, .dead, .dead, .dead, .dead, .dead, .dead, .dead, .dead, .dead, .dead, .dead, .dead, .dead, .dead, .dead, .dead, .dead, .dead, .dead, .dead, .dead, .dead, .dead, .dead, .dead, .dead, .dead, .dead, .dead]
        [some (.var [.imm (.string cn), .ro InsT ci, .ro CycT cr, .ro CycT cq, .ro CycT cm]), some (.mp true KeyT .bool (mapPut M (xs, xm) true)), some (.var [.imm (.int .i64 xo), .imm (.string xs), .imm (.int .i64 xm), .ro CycT xc])])
      (fun j n => n = (((xc.take j).filter isOp).length : Nat)) 0 (Le.mk [] [0, 1, 2] rfl rfl ?_ ?_) rfl fun j n hj hi2 => ?_
    · exact rfl
    · repeat' first | exact trivial | exact ⟨rfl, rfl⟩ | refine And.intro ?_ ?_
    repeat' first
      | (refine Go.mk ?_; conv => whnf)
      | refine Need.go ?_ ?_
      | refine NilG.go (fun _ => ?_) (fun _ => ?_)
      | refine Br.dec (fun _ => ?_) (fun _ => ?_)
      | refine Br.go (fun _ => ?_) (fun _ => ?_)
      | refine draw_go hT hP mixed ?_
      | refine round_go hT hP ?_
    all_goals clear hT hP
    all_goals have hf := List.length_filter_le isOp (xc.take j)
    all_goals rw [List.length_take] at hf
    · show 0 ≤ (j : Int) ∧ (j : Int) < (xc.length : Int)
      omega
    · rename_i g g1 g2
      have g : (j : Int) < (xc.length : Int) := g
      have h2 : isOp (xc.getD j (dflt CycT)) = true := by
        have g1 : (xc.getD j (dflt CycT)).1 = 1 := g1
        have g2 : (xc.getD j (dflt CycT)).2.1 = 0 := g2
        unfold isOp; rw [decide_eq_true g1, decide_eq_true g2]; rfl
      apply Exists.intro
      apply Exists.intro _
      refine And.intro (And.intro ?lt191 (And.intro ?ei191 ?inv191)) (Le.mk [] [0, 1, 2] rfl rfl ?hh191 ?ht191)
      case hh191 => exact rfl
      case ht191 => repeat' first | exact trivial | exact ⟨rfl, rfl⟩ | refine And.intro ?_ ?_
      case lt191 => omega
      case ei191 => exact up_i (by omega)
      have e : IntKind.i64.wrap (n + 1) = n + 1 := w64 (by omega) (by omega)
      have e2 := oper_yes (show j < xc.length by omega) h2
      rw [e]; omega
    · rename_i g g1 g2
      have g : (j : Int) < (xc.length : Int) := g
      have h2 : isOp (xc.getD j (dflt CycT)) = false := by
        have g1 : (xc.getD j (dflt CycT)).1 = 1 := g1
        have g2 : ¬ (xc.getD j (dflt CycT)).2.1 = 0 := g2
        unfold isOp; rw [decide_eq_true g1, decide_eq_false g2]; rfl
      apply Exists.intro
      apply Exists.intro _
      refine And.intro (And.intro ?lt207 (And.intro ?ei207 ?inv207)) (Le.mk [] [0, 1, 2] rfl rfl ?hh207 ?ht207)
      case hh207 => exact rfl
      case ht207 => repeat' first | exact trivial | exact ⟨rfl, rfl⟩ | refine And.intro ?_ ?_
      case lt207 => omega
      case ei207 => exact up_i (by omega)
      have e2 := oper_no (show j < xc.length by omega) h2
      omega
    · rename_i g g1
      have g : (j : Int) < (xc.length : Int) := g
      have h2 : isOp (xc.getD j (dflt CycT)) = false := by
        have g1 : ¬ (xc.getD j (dflt CycT)).1 = 1 := g1
        unfold isOp; rw [decide_eq_false g1]; rfl
      apply Exists.intro
      apply Exists.intro _
      refine And.intro (And.intro ?lt221 (And.intro ?ei221 ?inv221)) (Le.mk [] [0, 1, 2] rfl rfl ?hh221 ?ht221)
      case hh221 => exact rfl
      case ht221 => repeat' first | exact trivial | exact ⟨rfl, rfl⟩ | refine And.intro ?_ ?_
      case lt221 => omega
      case ei221 => exact up_i (by omega)
      have e2 := oper_no (show j < xc.length by omega) h2
      omega
    · rename_i g g1
      have e : n = operI xc := by rw [hi2, List.take_of_length_le (by omega)]; rfl
      have g1 : (n != sizeI xm) = true := g1
      rw [e] at g1
      exact .mk [] [] _ rfl rfl rfl rfl rfl rfl (imm_int (hE 3 (by decide) (insC_op (fun h => by omega) (fun h => by omega) (fun h => by omega) (by assumption) (by assumption) (by assumption) (by assumption) g1) hk2))
    · rename_i g g1
      have e : n = operI xc := by rw [hi2, List.take_of_length_le (by omega)]; rfl
      have g1 : (n != sizeI xm) = false := g1
      rw [e] at g1
      apply Exists.intro
      apply Exists.intro (xo, mapPut M (xs, xm) true)
      refine And.intro (And.intro ?lt239 (And.intro ?ei239 ?inv239)) (Le.mk [] [0, 1] rfl rfl ?hh239 ?ht239)
      case hh239 => exact rfl
      case ht239 => repeat' first | exact trivial | exact ⟨rfl, rfl⟩ | refine And.intro ?_ ?_
      case lt239 => omega
      case ei239 => exact up_i (by omega)
      exact ⟨hN (insC_ok (fun h => by omega) (fun h => by omega) (fun h => by omega) (by assumption) (by assumption) (by assumption) (by assumption) g1) hk2, keys_put hM hk2 hx', fun _ => by rw [Nat.add_sub_cancel, hx']⟩
  · have hk2 : k < ci.length := by omega
    have hx5 : xc.length ≤ 1000 := by
      have h0 : (cycsE xc != 0) = false := by assumption
      have h1 := ze_of h0
      unfold cycsE at h1
      split at h1
      · cases h1
      · omega
    have hno : ¬ (xo < 0 ∨ xo > 255) := by assumption
    refine up_go hT hP (A := Int) xc.length (fun j n => St.mk [.dead, .cell (.ptr 0 0), .dead, I xo, .cell (.map 1), .dead, .cell (.ptr 2 0), .dead, .dead, I n, .dead, .dead, .dead, .dead, .dead, .dead, .dead, .dead, .dead, .dead, .dead, .dead, .dead, .cell (.ro InsT ci), I ci.length, I k, .dead, .dead, .dead, .dead, .dead, .dead, .dead, .dead, .dead, .dead, .dead, .dead, .dead, .dead, .dead, .dead, .dead, .dead, .dead, .dead, .dead, .dead, .dead, .dead, .dead, .dead, .dead, .dead, .dead, .dead, .dead, .dead, .dead, .dead, .dead, .dead, .dead, .dead, .dead, .dead, .dead, .dead, .dead, .dead, .dead, .dead, .dead, .dead, .dead, .dead, .cell (.ro CycT xc), I xc.length, I j, .dead, .dead, .dead, .dead, .dead, .dead, .dead, .dead, .dead, .dead, .dead, .dead, .dead, .dead, .dead, .dead, .dead, .dead, .dead, .dead, .dead, .dead, .dead, .dead, .dead, .dead, .dead, .dead, .dead, .dead, .dead, .dead, .dead, .dead]
        [some (.var [.imm (.string cn), .ro InsT ci, .ro CycT cr, .ro CycT cq, .ro CycT cm]), some (.mp true KeyT .bool (mapPut M (xs, xm) true)), some (.var [.imm (.int .i64 xo), .imm (.string xs), .imm (.int .i64 xm), .ro CycT xc])])
      (fun j n => n = (((xc.take j).filter isOp).length : Nat)) 0 (Le.mk [] [0, 1, 2] rfl rfl ?_ ?_) rfl fun j n hj hi2 => ?_
    · exact rfl
    · repeat' first | exact trivial | exact ⟨rfl, rfl⟩ | refine And.intro ?_ ?_
    repeat' first
      | (refine Go.mk ?_; conv => whnf)
      | refine Need.go ?_ ?_
      | refine NilG.go (fun _ => ?_) (fun _ => ?_)
      | refine Br.dec (fun _ => ?_) (fun _ => ?_)
      | refine Br.go (fun _ => ?_) (fun _ => ?_)
      | refine draw_go hT hP mixed ?_
      | refine round_go hT hP ?_
    all_goals clear hT hP
    all_goals have hf := List.length_filter_le isOp (xc.take j)
    all_goals rw [List.length_take] at hf
    · show 0 ≤ (j : Int) ∧ (j : Int) < (xc.length : Int)
      omega
    · rename_i g g1 g2
      have g : (j : Int) < (xc.length : Int) := g
      have h2 : isOp (xc.getD j (dflt CycT)) = true := by
        have g1 : (xc.getD j (dflt CycT)).1 = 1 := g1
        have g2 : (xc.getD j (dflt CycT)).2.1 = 0 := g2
        unfold isOp; rw [decide_eq_true g1, decide_eq_true g2]; rfl
      apply Exists.intro
      apply Exists.intro _
      refine And.intro (And.intro ?lt280 (And.intro ?ei280 ?inv280)) (Le.mk [] [0, 1, 2] rfl rfl ?hh280 ?ht280)
      case hh280 => exact rfl
      case ht280 => repeat' first | exact trivial | exact ⟨rfl, rfl⟩ | refine And.intro ?_ ?_
      case lt280 => omega
      case ei280 => exact up_i (by omega)
      have e : IntKind.i64.wrap (n + 1) = n + 1 := w64 (by omega) (by omega)
      have e2 := oper_yes (show j < xc.length by omega) h2
      rw [e]; omega
    · rename_i g g1 g2
      have g : (j : Int) < (xc.length : Int) := g
      have h2 : isOp (xc.getD j (dflt CycT)) = false := by
        have g1 : (xc.getD j (dflt CycT)).1 = 1 := g1
        have g2 : ¬ (xc.getD j (dflt CycT)).2.1 = 0 := g2
        unfold isOp; rw [decide_eq_true g1, decide_eq_false g2]; rfl
      apply Exists.intro
      apply Exists.intro _
      refine And.intro (And.intro ?lt296 (And.intro ?ei296 ?inv296)) (Le.mk [] [0, 1, 2] rfl rfl ?hh296 ?ht296)
      case hh296 => exact rfl
      case ht296 => repeat' first | exact trivial | exact ⟨rfl, rfl⟩ | refine And.intro ?_ ?_
      case lt296 => omega
      case ei296 => exact up_i (by omega)
      have e2 := oper_no (show j < xc.length by omega) h2
      omega
    · rename_i g g1
      have g : (j : Int) < (xc.length : Int) := g
      have h2 : isOp (xc.getD j (dflt CycT)) = false := by
        have g1 : ¬ (xc.getD j (dflt CycT)).1 = 1 := g1
        unfold isOp; rw [decide_eq_false g1]; rfl
      apply Exists.intro
      apply Exists.intro _
      refine And.intro (And.intro ?lt310 (And.intro ?ei310 ?inv310)) (Le.mk [] [0, 1, 2] rfl rfl ?hh310 ?ht310)
      case hh310 => exact rfl
      case ht310 => repeat' first | exact trivial | exact ⟨rfl, rfl⟩ | refine And.intro ?_ ?_
      case lt310 => omega
      case ei310 => exact up_i (by omega)
      have e2 := oper_no (show j < xc.length by omega) h2
      omega
    · rename_i g g1
      have e : n = operI xc := by rw [hi2, List.take_of_length_le (by omega)]; rfl
      have g1 : (n != sizeI xm) = true := g1
      rw [e] at g1
      exact .mk [] [] _ rfl rfl rfl rfl rfl rfl (imm_int (hE 3 (by decide) (insC_op (fun h => by omega) (fun h => by omega) (fun h => by omega) (by assumption) (by assumption) (by assumption) (by assumption) g1) hk2))
    · rename_i g g1
      have e : n = operI xc := by rw [hi2, List.take_of_length_le (by omega)]; rfl
      have g1 : (n != sizeI xm) = false := g1
      rw [e] at g1
      apply Exists.intro
      apply Exists.intro (xo, mapPut M (xs, xm) true)
      refine And.intro (And.intro ?lt328 (And.intro ?ei328 ?inv328)) (Le.mk [] [0, 1] rfl rfl ?hh328 ?ht328)
      case hh328 => exact rfl
      case ht328 => repeat' first | exact trivial | exact ⟨rfl, rfl⟩ | refine And.intro ?_ ?_
      case lt328 => omega
      case ei328 => exact up_i (by omega)
      exact ⟨hN (insC_ok (fun h => by omega) (fun h => by omega) (fun h => by omega) (by assumption) (by assumption) (by assumption) (by assumption) g1) hk2, keys_put hM hk2 hx', fun _ => by rw [Nat.add_sub_cancel, hx']⟩
  · skip
    have hQ := hT2 (by rw [← hi, List.drop_of_length_le (by rw [List.length_range]; omega)]; rfl)
    have gr : cycsE cr = 0 := by assumption
    have gq : cycsE cq = 0 := by assumption
    refine .mk [] [] _ rfl rfl rfl rfl rfl rfl (imm_int ?_)
    show cycsE cm = cpuE (cn, ci, cr, cq, cm)
    rw [← hQ]
    refine (((if_pos gr : tailE (cn, ci, cr, cq, cm) = errL cycsE [cq, cm]).trans (if_pos gq : errL cycsE [cq, cm] = errL cycsE [cm])).trans ?_).symm
    by_cases h : cycsE cm = 0
    · rw [h]; exact (if_pos h : errL cycsE [cm] = errL cycsE [])
    · exact (if_neg h : errL cycsE [cm] = cycsE cm)
  · skip
    have hQ := hT2 (by rw [← hi, List.drop_of_length_le (by rw [List.length_range]; omega)]; rfl)
    have gr : cycsE cr = 0 := by assumption
    have gq : ¬ cycsE cq = 0 := by assumption
    refine .mk [] [] _ rfl rfl rfl rfl rfl rfl (imm_int ?_)
    show cycsE cq = cpuE (cn, ci, cr, cq, cm)
    rw [← hQ]
    exact ((if_pos gr : tailE (cn, ci, cr, cq, cm) = errL cycsE [cq, cm]).trans (if_neg gq : errL cycsE [cq, cm] = cycsE cq)).symm
  · exact absurd (by assumption : cycsE cr = 0) (by assumption)
  · skip
    have hQ := hT2 (by rw [← hi, List.drop_of_length_le (by rw [List.length_range]; omega)]; rfl)
    have gr : ¬ cycsE cr = 0 := by assumption
    refine .mk [] [] _ rfl rfl rfl rfl rfl rfl (imm_int ?_)
    show cycsE cr = cpuE (cn, ci, cr, cq, cm)
    rw [← hQ]
    exact (if_neg gr : tailE (cn, ci, cr, cq, cm) = cycsE cr).symm

end Go.Proofs.Ytanaaecfghmmaaa

/- bakelaw1.TableChecks answers true, whatever it is given (not built yet: its function is in the seat of round r2 only). -/
namespace Go.Proofs.Ytanaaecfghmmaaa
open Go.Fw
set_option linter.unusedVariables false
set_option linter.unusedSimpArgs false
set_option linter.constructorNameAsVariable false
set_option maxRecDepth 100000

def tchkS : PSpec := ⟨[gStr, gCpu], fun (s, c, _) => (none, .cell (bv true), [])⟩
theorem tchk_ok : GoodF Try.prog 5 tchkS.spec := by
  have hT := tab_ok (fs := [(18, tablesS.spec), (19, nameS.spec), (20, nameS.spec), (21, tcheckS.spec), (22, tcheckS.spec)]) tree_ok
  have hP : SpecsOk Try.prog (tab tree [(18, tablesS.spec), (19, nameS.spec), (20, nameS.spec), (21, tcheckS.spec), (22, tcheckS.spec)]) := specs_cons tables_ok (specs_cons tName_ok (specs_cons rNamed_ok (specs_cons tcheck_ok (specs_cons cpuErr_eval specs_nil))))
  refine tchkS.good (fn := Try.f5) hT hP Try.func5 (by kernel_rfl) rfl fun (s : ByteArray) (c : Cpu) _ => ?_
  obtain ⟨cn, ci, cr, cq, cm⟩ := c
  repeat' first
    | (refine Go.mk ?_; conv => whnf)
    | refine Need.go ?_ ?_
    | refine NilG.go (fun _ => ?_) (fun _ => ?_)
    | refine Br.dec (fun _ => ?_) (fun _ => ?_)
    | refine Br.go (fun _ => ?_) (fun _ => ?_)
    | refine draw_go hT hP mixed ?_
    | refine round_go hT hP ?_
  all_goals first
    | (rename_i g
       exact absurd rfl g)
    | (refine .mk [] [] _ rfl rfl rfl rfl rfl rfl (imm_bool ?_)
       simp)
    | skip

end Go.Proofs.Ytanaaecfghmmaaa

/- The arguments of a law: from what they read as to data, and back behind the call. -/
namespace Go.Fw
open Go.ChangeShapes Go.WideShapes Go.RowKit
set_option linter.unusedVariables false
set_option linter.unusedSimpArgs false

def sigFits (P : Program) (m : Nat) (g : Sig) (t : TypeId) : Bool := tyFits P m g.t t && match P.underlying t with
  | some (.struct _) => g.ag
  | some (.int _) => !g.ag
  | some .bool => !g.ag
  | some .string => !g.ag
  | some (.slice _) => !g.ag
  | some (.array _ _) => g.ag
  | _ => false
def sigsFit (P : Program) (m : Nat) : List Sig → List TypeId → Bool
  | [], [] => true
  | g :: gs, t :: ts => sigFits P m g t && sigsFit P m gs ts
  | _, _ => false
def WfA : (gs : List Sig) → Args gs → Prop
  | [], _ => True
  | g :: gs, x => Wf g.t x.1 ∧ WfA gs x.2

section
variable {H : Type} {enc : TypeId × Value → H} {P : Program} {w : World} {base : Nat}

theorem one_cell {v u : Value} (h : v.cells.toList = [u]) (hv : ∀ cs, v ≠ .agg cs) : v = u := by
  cases v with
  | agg cs => exact absurd rfl (hv cs)
  | _ => simpa [Value.cells] using h

theorem CR.one {w : World} {S : Nat → Prop} {t : Ty} {d : Den t} {v : Value} (hc : CR w S t d [v]) (h : (cells t d).length = 1) (E : Env) (hw : E.w = w) (hS : E.S = S) : ∃ c, cells t d = [c] ∧ CellR E c [v] := by
  subst hw; subst hS
  have := hc.items
  match hh : cells t d, h with
  | [c], _ =>
    rw [hh] at this
    obtain ⟨r, s, e, h1, h2⟩ := this
    simp only [IR] at h2
    subst h2
    simp at e
    subst e
    exact ⟨c, rfl, h1⟩

variable {bk : DataW H → Nat} {ba : List (DataW H) → Nat}
theorem v1_open (B : BulkLaw bk ba) {m fuel : Nat} {g : Sig} {t : TypeId} {v : Value} {x : DataW H × List MemPlace} (hf : sigFits P m g t = true) (hv : Value.okWide P w .any base t v) (hz : ∀ z ∈ DataW.weights P t x.1, z ≤ reachBytes)
    (h : DataW.trod enc P w 0 (fun _ => true) true fuel t v.cells.toList = some x) : ∃ d : Den g.t, V1R (startE w) (canonV g d) v ∧ Wf g.t d ∧ bd g.t d ≤ bk x.1 := by
  unfold sigFits at hf
  rw [Bool.and_eq_true] at hf
  obtain ⟨h1, h2⟩ := hf
  obtain ⟨d, hc, hw, hb⟩ := open_cr B m h1 hz h
  refine ⟨d, ?_, hw, hb⟩
  have single : ∀ u, v = u → (∀ cs, v ≠ .agg cs) → g.ag = false → (cells g.t d).length = 1 → V1R (startE w) (canonV g d) v := by
    intro u e hn hg hl
    have hcl : v.cells.toList = [v] := by
      cases v with
      | agg cs => exact absurd rfl (hn cs)
      | _ => rfl
    rw [hcl] at hc
    obtain ⟨c, e1, e2⟩ := hc.one hl (startE w) rfl rfl
    unfold canonV
    rw [hg]
    simp only [e1]
    exact e2
  cases m with
  | zero => cases h1
  | succ m =>
  unfold tyFits at h1
  split at h2
  · rename_i F hu
    obtain ⟨cs, rfl, _⟩ := okWide_struct hu hv
    unfold canonV
    rw [h2]
    exact ⟨cs, rfl, hc.items (E := startE w)⟩
  · rename_i k hu
    obtain ⟨n, rfl⟩ := okWide_int hu hv
    refine single _ rfl (by simp) (by simpa using h2) ?_
    rw [hu] at h1
    match g, d, h1 with
    | ⟨_, .int _⟩, _, _ => rfl
  · rename_i hu
    obtain ⟨n, rfl⟩ := okWide_bool hu hv
    refine single _ rfl (by simp) (by simpa using h2) ?_
    rw [hu] at h1
    match g, d, h1 with
    | ⟨_, .bool⟩, _, _ => rfl
  · rename_i hu
    obtain ⟨n, rfl⟩ := okWide_string hu hv
    refine single _ rfl (by simp) (by simpa using h2) ?_
    rw [hu] at h1
    match g, d, h1 with
    | ⟨_, .str⟩, _, _ => rfl
  · rename_i e hu
    obtain ⟨a, len, cap, rfl⟩ := okWide_slice hu hv
    refine single _ rfl (by simp) (by simpa using h2) ?_
    rw [hu] at h1
    match g, d, h1 with
    | ⟨_, .sl _⟩, _, _ => rfl
  · rename_i n e hu
    obtain ⟨cs, rfl⟩ : ∃ cs, v = .agg cs := by
      simp only [Value.okWide, hu] at hv
      obtain ⟨cs, h1, _⟩ := hv
      exact ⟨cs, h1⟩
    unfold canonV
    rw [h2]
    exact ⟨cs, rfl, hc.items (E := startE w)⟩
  · cases h2

def bdA : (gs : List Sig) → Args gs → Nat
  | [], _ => 0
  | g :: gs, x => bd g.t x.1 + bdA gs x.2
theorem args_open (B : BulkLaw bk ba) {m : Nat} {vt : List TypeId} {gds : List (DataW H)} : ∀ {gs : List Sig} {ts : List TypeId} {vs : List Value} {ds : List (DataW H)} {ps : List MemPlace}, sigsFit P m gs ts = true →
    (∀ (j : Nat) t v, ts[j]? = some t → vs[j]? = some v → Value.okWide P w .any base t v) → (∀ z ∈ DataW.weightsEach P (ts ++ vt) (ds ++ gds), z ≤ reachBytes) →
    DataW.TrodAll enc P w 0 (fun _ => true) true ts vs ds ps → ∃ xs : Args gs, VsR (startE w) (canonArgs gs xs) vs ∧ WfA gs xs ∧ bdA gs xs ≤ ba ds
  | [], [], vs, ds, ps, _, _, _, h => by
    obtain ⟨rfl, rfl, rfl⟩ := trodAll_nil h
    exact ⟨(), rfl, trivial, Nat.zero_le _⟩
  | g :: gs, t :: ts, vs, ds, ps, hf, hv, hz, h => by
    unfold sigsFit at hf
    rw [Bool.and_eq_true] at hf
    obtain ⟨v, vs', d, ds', p, q, rfl, rfl, rfl, ⟨fuel, h1⟩, h2⟩ := trodAll_cons h
    rw [List.cons_append, List.cons_append, DataW.weightsEach] at hz
    obtain ⟨x, hx, wx, bx⟩ := v1_open B (x := (d, p)) hf.1 (hv 0 t v rfl rfl) (fun z hz' => hz z (List.mem_append.2 (.inl hz'))) h1
    obtain ⟨xs, hxs, wxs, bxs⟩ := args_open B hf.2 (fun j t v ht hvj => hv (j + 1) t v (by simpa using ht) (by simpa using hvj)) (fun z hz' => hz z (List.mem_append.2 (.inr hz'))) h2
    exact ⟨(x, xs), VsR.cons hx hxs, ⟨wx, wxs⟩, Nat.le_trans (Nat.add_le_add bx bxs) (B.cons _ _)⟩
  | [], _ :: _, _, _, _, hf, _, _, _ => by cases hf
  | _ :: _, [], _, _, _, hf, _, _, _ => by cases hf

theorem dec_cells {look : Nat → Option Blk} : ∀ (t : Ty) (x : Den t) (r : List Cell), dec look t (cells t x ++ r) = some (x, [], r)
  | .int k, x, r => by simp [cells, dec]
  | .ints k n, l, r => by simp [cells, dec]
  | .bool, b, r => rfl
  | .str, s, r => rfl
  | .sl t, l, r => by
    have : slAs look t (.ro t l) = some l := by
      unfold slAs
      simp only [sliceOf, eqTy, dif_pos, castL]
    simp only [cells, List.cons_append, List.nil_append, dec, this, frzN]
  | .pair a b, x, r => by
    simp only [cells, dec, List.append_assoc, dec_cells a x.1, dec_cells b x.2, List.append_nil]

theorem decAll_cells {look : Nat → Option Blk} (t : Ty) (x : Den t) : decAll look t (cells t x) = some (x, []) := by
  unfold decAll
  have := dec_cells (look := look) t x []
  rw [List.append_nil] at this
  rw [this]

def Sig.fine (g : Sig) : Bool := g.ag || match g.t with | .int _ => true | .bool => true | .str => true | .sl _ => true | _ => false
theorem decV_canon {g : Sig} (h : g.fine = true) (d : Den g.t) : decV g (canonV g d) = some d := by
  obtain ⟨ag, t⟩ := g
  cases ag with
  | true =>
    unfold decV canonV
    simp only [decAll_cells]
  | false =>
    have one : ∃ c, cells t d = [c] := by
      cases t <;> simp [Sig.fine] at h <;> exact ⟨_, rfl⟩
    obtain ⟨c, hc⟩ := one
    have e : canonV ⟨false, t⟩ d = .c c := by unfold canonV; simp only [hc]
    have e2 : decAll (fun _ => none) t [c] = some (d, []) := by rw [← hc]; exact decAll_cells t d
    unfold decV
    simp only [e, e2, hc]
theorem decArgs_canon : ∀ {gs : List Sig} (h : gs.all Sig.fine = true) (xs : Args gs), decArgs gs (canonArgs gs xs) = some xs
  | [], _, () => rfl
  | g :: gs, h, (a, r) => by
    rw [List.all_cons, Bool.and_eq_true] at h
    show (match decV g (canonV g a) with | some d => (match decArgs gs (canonArgs gs r) with | some r => some (d, r) | none => none) | none => none) = _
    rw [decV_canon h.1, decArgs_canon h.2]

def rowsFine (P : Program) (ts : List TypeId) : Bool := ts.all fun t => P.readableRec t && Nat.blt t P.types.size
theorem args_back {W W' : World} (hl : laidOutB P = true) (hb : Below W.heap.size W W') : ∀ {ts : List TypeId} {vs : List Value} {ds : List (DataW H)} {ps : List MemPlace}, rowsFine P ts = true → (∀ x ∈ ps, x.block < W.heap.size) →
    DataW.TrodAll enc P W 0 (fun _ => true) true ts vs ds ps → DataW.TrodAll enc P W' 0 (fun b => decide (b < W.heap.size)) true ts vs ds ps
  | [], vs, ds, ps, _, _, h => by
    obtain ⟨rfl, rfl, rfl⟩ := trodAll_nil h
    exact trodAll_mk0
  | t :: ts, vs, ds, ps, hf, hlt, h => by
    unfold rowsFine at hf
    rw [List.all_cons, Bool.and_eq_true, Bool.and_eq_true] at hf
    obtain ⟨v, vs', d, ds', p, q, rfl, rfl, rfl, h1, h2⟩ := trodAll_cons h
    exact trodAll_cons_mk (Below.trod hl hf.1.1 (by simpa [Nat.blt_eq] using hf.1.2) h1 hb fun x hx => hlt x (List.mem_append.2 (.inl hx))) (args_back hl hb hf.2 (fun x hx => hlt x (List.mem_append.2 (.inr hx))) h2)
end

/-- a law that is true, over arguments of any kind -/
theorem PSpec.law_all {P : Program} {H : Type} {enc : TypeId × Value → H} {f : FuncId} {s : PSpec} (h : GoodF P f s.spec) {W : World} {base m : Nat} {ts vt : List TypeId} {args : Array Value} {ds gds : List (DataW H)} {p : List MemPlace}
    (hfit : sigsFit P m s.gs ts = true) (hfine : s.gs.all Sig.fine = true) (hrow : rowsFine P ts = true) (hl : laidOutB P = true)
    (hval : ∀ (j : Nat) t v, ts[j]? = some t → args.toList[j]? = some v → Value.okWide P W .any base t v)
    (hz : (DataW.weightsEach P (ts ++ vt) (ds ++ gds)).all (· ≤ reachBytes) = true) (hA : DataW.TrodAll enc P W 0 (fun _ => true) true ts args.toList ds p)
    (hs : ∀ xs, WfA s.gs xs → ∃ q, s.out xs = (q, .cell (bv true), []) ∧ ∀ z, q = some z → z) :
    Calls P f args W fun e w' => e = .returned (.bool true) ∧ Below W.heap.size W w' ∧ DataW.TrodAll enc P w' 0 (fun b => decide (b < W.heap.size)) true ts args.toList ds p := by
  obtain ⟨xs, hv, hw, _⟩ := args_open (bulk_size H) hfit hval (fun z hz' => by simpa using List.all_eq_true.1 hz z hz') hA
  obtain ⟨q, h1, h2⟩ := hs xs hw
  refine (PSpec.law h xs hv (decArgs_canon hfine xs) h1 h2).mono fun e W' ⟨he, hb⟩ => ⟨he, hb, ?_⟩
  exact args_back hl hb hrow (DataW.TrodAll.lt hA) hA

/-- a law that is true, over arguments of any kind up to a bulk -/
theorem PSpec.law_upto {P : Program} {H : Type} {enc : TypeId × Value → H} {f : FuncId} {s : PSpec} (h : GoodF P f s.spec) {W : World} {base m N : Nat} {ts vt : List TypeId} {args : Array Value} {ds gds : List (DataW H)} {p : List MemPlace}
    {bk : DataW H → Nat} {ba : List (DataW H) → Nat} (B : BulkLaw bk ba) (hN : ba ds ≤ N)
    (hfit : sigsFit P m s.gs ts = true) (hfine : s.gs.all Sig.fine = true) (hrow : rowsFine P ts = true) (hl : laidOutB P = true)
    (hval : ∀ (j : Nat) t v, ts[j]? = some t → args.toList[j]? = some v → Value.okWide P W .any base t v)
    (hz : (DataW.weightsEach P (ts ++ vt) (ds ++ gds)).all (· ≤ reachBytes) = true) (hA : DataW.TrodAll enc P W 0 (fun _ => true) true ts args.toList ds p)
    (hs : ∀ xs, WfA s.gs xs → bdA s.gs xs ≤ N → ∃ q, s.out xs = (q, .cell (bv true), []) ∧ ∀ z, q = some z → z) :
    Calls P f args W fun e w' => e = .returned (.bool true) ∧ Below W.heap.size W w' ∧ DataW.TrodAll enc P w' 0 (fun b => decide (b < W.heap.size)) true ts args.toList ds p := by
  obtain ⟨xs, hv, hw, hbd⟩ := args_open B hfit hval (fun z hz' => by simpa using List.all_eq_true.1 hz z hz') hA
  obtain ⟨q, h1, h2⟩ := hs xs hw (Nat.le_trans hbd hN)
  refine (PSpec.law h xs hv (decArgs_canon hfine xs) h1 h2).mono fun e W' ⟨he, hb⟩ => ⟨he, hb, ?_⟩
  exact args_back hl hb hrow (DataW.TrodAll.lt hA) hA

end Go.Fw

/- The arguments of TableChecks keep to nothing. -/
namespace Go.Proofs.Ytanaaecfghmmaaa
open Go.Fw

end Go.Proofs.Ytanaaecfghmmaaa

