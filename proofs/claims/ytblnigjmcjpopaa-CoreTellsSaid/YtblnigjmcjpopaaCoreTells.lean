/- bakelaw1.CoreTells answers true, whatever it is given; the walk of the document. -/
import Derived.Test.YtblnigjmcjpopaaTell2
import Derived.Test.YtblnigjmcjpopaaCoreLaw
namespace Go.Proofs.Ytblnigjmcjpopaa
open Go.Fw
set_option linter.unusedVariables false
set_option linter.unusedSimpArgs false
set_option linter.constructorNameAsVariable false
set_option maxRecDepth 100000

def idleRd : List V1 → List Blk → Option Kor := fun a b => match a, b with
  | [.c (.ptr 0 0)], [.var [.run .i64 9 r, .imm (.int .i64 op), .imm (.int .i64 at_), .imm (.bool nmi)]] => some (r, op, at_, nmi)
  | _, _ => none
theorem idleRd_ok {a : List V1} {b : List Blk} {x : Kor} (h : idleRd a b = some x) : a = [.c (.ptr 0 0)] ∧ b = [.var [.run .i64 9 x.1, iv .i64 x.2.1, iv .i64 x.2.2.1, bv x.2.2.2]] := by
  unfold idleRd at h
  split at h
  · injection h with h; subst h; exact ⟨rfl, rfl⟩
  · cases h
def idleWS : WSpec := ⟨Kor, fun _ => [.c (.ptr 0 0)], fun x => [.var [.run .i64 9 x.1, iv .i64 x.2.1, iv .i64 x.2.2.1, bv x.2.2.2]], idleRd,
  fun (r, op, at_, nmi) => (none, .agg [.run .i64 9 r, iv .i64 (-1), iv .i64 0, bv nmi], [some (.var [.run .i64 9 r, iv .i64 (-1), iv .i64 0, bv nmi])], [])⟩
theorem idle_ok : Good Try.prog 78 idleWS.spec := by
  have hT := tab_ok (fs := []) tree_ok
  have hP : SpecsOk Try.prog (tab tree []) := specs_nil
  refine idleWS.good (fn := Try.f78) hT hP Try.func78 (by kernel_rfl) rfl (fun _ _ _ h => idleRd_ok h) fun ((r, op, at_, nmi) : Kor) hq => ?_
  repeat' first
    | (refine Go.mk ?_; conv => whnf)
    | refine Need.go ?_ ?_
    | refine NilG.go (fun _ => ?_) (fun _ => ?_)
    | refine Br.dec (fun _ => ?_) (fun _ => ?_)
    | refine Br.go (fun _ => ?_) (fun _ => ?_)
    | refine draw_go hT hP mixed ?_
    | refine round_go hT hP ?_
  all_goals exact .mk [] [0] _ rfl rfl rfl rfl rfl rfl rfl
theorem hasI_eq {c : Cpu} {op : Int} : hasI c op = decide (¬ idxI c.2.1 op < 0) := by
  unfold hasI
  by_cases h : 0 ≤ idxI c.2.1 op
  · rw [decide_eq_true h, decide_eq_true (by omega)]
  · rw [decide_eq_false h, decide_eq_false (by omega)]
theorem canB_t {c : Cpu} {op at_ : Int} (h : ¬ op = -1) (h0 : 0 ≤ at_) (h1 : at_ < (cycF c op).length) : canB c op at_ = true := by
  unfold canB; rw [decide_eq_false h, decide_eq_true h0, decide_eq_true h1]; rfl
theorem canB_f {c : Cpu} {op at_ : Int} (h : ¬ (0 ≤ at_ ∧ at_ < (cycF c op).length)) : canB c op at_ = false := by
  unfold canB
  by_cases h0 : 0 ≤ at_
  · rw [decide_eq_true h0, decide_eq_false (fun h1 => h ⟨h0, h1⟩)]; simp
  · rw [decide_eq_false h0]; simp
set_option maxHeartbeats 8000000 in
theorem answered_ok : Good Try.prog 27 tellS.spec := by
  have hT := tab_ok (fs := [(77, fitS.spec), (76, modS.spec), (78, idleWS.spec), (79, opWS.spec), (65, idxWS.spec), (81, narrowS.spec), (82, wideS.spec), (83, doS.spec), (80, cycS.spec)]) tree_ok
  have hP : SpecsOk Try.prog (tab tree [(77, fitS.spec), (76, modS.spec), (78, idleWS.spec), (79, opWS.spec), (65, idxWS.spec), (81, narrowS.spec), (82, wideS.spec), (83, doS.spec), (80, cycS.spec)]) := specs_cons rFit_ok (specs_cons mod_ok (specs_cons idle_ok (specs_cons ansOp_ok (specs_cons idx_ok (specs_cons rNarrow_ok (specs_cons rWide_ok (specs_cons stepped_ok (specs_cons cycOf_ok specs_nil))))))))
  refine tellS.good (fn := Try.f27) hT hP Try.func27 (by kernel_rfl) rfl fun (c : Cpu) (k : Kor) (data : Int) hq => ?_
  obtain ⟨cn, ci, cr, cq, cm⟩ := c
  obtain ⟨r, op, at_, nmi⟩ := k
  obtain ⟨h1, h2, h3⟩ : tellP (cn, ci, cr, cq, cm) (r, op, at_, nmi) := hq _ rfl
  clear hq
  have hC := okCyc_F h1 h2 op
  have hS := doF_len (at_ := at_) hC
  have h1' : ci.length * 56 ≤ 140737488351232 := h1.1
  repeat' first
    | (refine Go.mk ?_; conv => whnf)
    | refine Need.go ?_ ?_
    | refine NilG.go (fun _ => ?_) (fun _ => ?_)
    | refine Br.dec (fun _ => ?_) (fun _ => ?_)
    | refine Br.go (fun _ => ?_) (fun _ => ?_)
    | refine draw_go hT hP mixed ?_
    | refine round_go hT hP ?_
  all_goals first
    | exact of_decide_eq_true rfl
    | exact h3
    | exact h1
    | skip
  all_goals (try simp only [castL_eq] at *)
  all_goals (try dsimp only at *)
  all_goals first
    | exact ⟨.inr trivial, by show ci.length ≤ _; omega⟩
    | exact ⟨.inr rfl, by show ci.length ≤ _; omega⟩
    | (show ci.length ≤ 4611686018427387904
       omega)
    | (have hi := idxI_in ci (data % 256)
       show 0 ≤ idxI ci (data % 256) ∧ idxI ci (data % 256) < (ci.length : Int)
       omega)
    | (show 0 ≤ at_ ∧ at_ < ((cycF (cn, ci, cr, cq, cm) op).length : Int)
       omega)
    | (rename_i hreg
       have hreg : 0 ≤ ((cycF (cn, ci, cr, cq, cm) op).getD at_.toNat cycD).2.2.1 ∧ ((cycF (cn, ci, cr, cq, cm) op).getD at_.toNat cycD).2.2.1 ≤ 6 := hreg
       have h9 : ((cycF (cn, ci, cr, cq, cm) op).getD at_.toNat cycD).2.2.1.toNat < 9 := by omega
       exact h9)
    | (rename_i hreg
       have hreg : ((cycF (cn, ci, cr, cq, cm) op).getD at_.toNat cycD).2.2.1 = 7 ∨ ((cycF (cn, ci, cr, cq, cm) op).getD at_.toNat cycD).2.2.1 = 8 := hreg
       have h9 : ((cycF (cn, ci, cr, cq, cm) op).getD at_.toNat cycD).2.2.1.toNat < 9 := by omega
       exact h9)
    | (rename_i hreg
       clear hT hP
       have hreg : 0 ≤ ((cycF (cn, ci, cr, cq, cm) op).getD at_.toNat cycD).2.2.1 ∧ ((cycF (cn, ci, cr, cq, cm) op).getD at_.toNat cycD).2.2.1 ≤ 6 := hreg
       exact (⟨hreg.1, by omega⟩ : 0 ≤ ((cycF (cn, ci, cr, cq, cm) op).getD at_.toNat cycD).2.2.1 ∧ ((cycF (cn, ci, cr, cq, cm) op).getD at_.toNat cycD).2.2.1 < (9 : Int)))
    | (rename_i hreg
       clear hT hP
       have hreg : ((cycF (cn, ci, cr, cq, cm) op).getD at_.toNat cycD).2.2.1 = 7 ∨ ((cycF (cn, ci, cr, cq, cm) op).getD at_.toNat cycD).2.2.1 = 8 := hreg
       exact (⟨by omega, by omega⟩ : 0 ≤ ((cycF (cn, ci, cr, cq, cm) op).getD at_.toNat cycD).2.2.1 ∧ ((cycF (cn, ci, cr, cq, cm) op).getD at_.toNat cycD).2.2.1 < (9 : Int)))
    | (show ((cycF (cn, ci, cr, cq, cm) op).getD at_.toNat cycD).2.2.1.toNat < 9
       try simp only [narrowB, wideB, decide_eq_true_eq] at *
       omega)
    | (rename_i hop hlt
       have hh : hasI (cn, ci, cr, cq, cm) (data % 256) = false := decide_eq_false (by show ¬ 0 ≤ idxI ci (data % 256); omega)
       refine .mk [] [] _ rfl rfl rfl rfl rfl rfl (aggK ?_)
       rw [tellF_idle hop, if_neg (by rw [hh]; decide)])
    | (rename_i hop hge hlen
       have hlen : ((ci.getD (idxI ci (data % 256)).toNat (dflt InsT)).2.2.2.length : Int) > 0 := hlen
       have hh : hasI (cn, ci, cr, cq, cm) (data % 256) = true := decide_eq_true (by show 0 ≤ idxI ci (data % 256); omega)
       have hf : findI (cn, ci, cr, cq, cm) (data % 256) = ci.getD (idxI ci (data % 256)).toNat (dflt InsT) := if_pos hh
       refine .mk [] [] _ rfl rfl rfl rfl rfl rfl (aggK ?_)
       rw [tellF_idle hop, if_pos hh, hf, if_pos (by omega)])
    | (rename_i hop hge hlen
       have hlen : ¬ ((ci.getD (idxI ci (data % 256)).toNat (dflt InsT)).2.2.2.length : Int) > 0 := hlen
       have hh : hasI (cn, ci, cr, cq, cm) (data % 256) = true := decide_eq_true (by show 0 ≤ idxI ci (data % 256); omega)
       have hf : findI (cn, ci, cr, cq, cm) (data % 256) = ci.getD (idxI ci (data % 256)).toNat (dflt InsT) := if_pos hh
       refine .mk [] [] _ rfl rfl rfl rfl rfl rfl (aggK ?_)
       rw [tellF_idle hop, if_pos hh, hf, if_neg (by omega), hop])
    | (have hb : canB (cn, ci, cr, cq, cm) op at_ = false := canB_f (by omega)
       refine .mk [] [] _ rfl rfl rfl rfl rfl rfl (aggK ?_)
       rw [tellF_ended (by assumption) hb]
       simp_all
       done)
    | skip
  all_goals
    have hb : canB (cn, ci, cr, cq, cm) op at_ = true := canB_t (by assumption) (by omega) (by omega)
    have hCl : (cycF (cn, ci, cr, cq, cm) op).length * 48 ≤ 140737488351232 := hC.1
    have ewa : IntKind.i64.wrap (at_ + 1) = at_ + 1 := w64 (by omega) (by omega)
    have hx : doF (cn, ci, cr, cq, cm) op at_ = ((cycF (cn, ci, cr, cq, cm) op).getD at_.toNat cycD) := if_pos hb
    rw [hx] at hS
  all_goals first
    | (have hbus : ((cycF (cn, ci, cr, cq, cm) op).getD at_.toNat cycD).1 = 1 := by assumption
       have hreg : 0 ≤ ((cycF (cn, ci, cr, cq, cm) op).getD at_.toNat cycD).2.2.1 ∧ ((cycF (cn, ci, cr, cq, cm) op).getD at_.toNat cycD).2.2.1 ≤ 6 := by assumption
       have hR : tellR ((cycF (cn, ci, cr, cq, cm) op).getD at_.toNat cycD) (fitR r) (data % 256) = ((fitR r).set ((cycF (cn, ci, cr, cq, cm) op).getD at_.toNat cycD).2.2.1.toNat (data % 256)) := if_pos ⟨hbus, by omega, by omega⟩
       refine up_go hT hP ((cycF (cn, ci, cr, cq, cm) op).getD at_.toNat cycD).2.2.2.length (fun i (z : List Int) => St.mk [.dead, .dead, .dead, .dead, .cell (.ptr 0 0), .dead, .cell (.ptr 1 0), .cell (.fn 78 [0]), .dead, .cell (.ro CycT (cycF (cn, ci, cr, cq, cm) op)), .dead, .dead, .dead, .dead, .dead, .dead, .dead, .dead, .dead, .dead, .dead, .dead, .dead, .dead, .dead, .dead, .dead, .dead, .dead, .dead, .dead, .dead, .dead, .dead, .dead, .dead, .dead, .dead, .dead, .dead, .dead, .dead, .dead, .dead, .dead, .dead, .dead, .dead, .dead, .dead, .dead, .dead, .dead, .dead, .dead, .dead, .dead, .dead, .dead, .dead, .dead, .dead, .dead, .dead, .dead, .dead, .dead, .dead, .dead, .dead, .dead, .dead, .dead, .dead, .dead, .dead, .dead, .dead, .dead, .dead, .dead, .dead, .dead, .dead, .dead, .dead, .dead, .dead, .dead, .dead, .dead, .dead, .dead, .cell (.ro StepT ((cycF (cn, ci, cr, cq, cm) op).getD at_.toNat cycD).2.2.2), I (((cycF (cn, ci, cr, cq, cm) op).getD at_.toNat cycD).2.2.2.length : Int), I i, .dead, .dead, .dead, .dead, .dead, .dead, .dead, .dead, .dead, .dead, .dead, .dead, .dead, .dead, .dead, .dead, .dead, .dead, .dead, .dead, .dead, .dead, .dead] [some (.var [.run .i64 9 z, iv .i64 op, iv .i64 (IntKind.i64.wrap (at_ + 1)), bv nmi]), some (.var [.run .i64 9 [0, 0, 0, 0, 0, 0, 0, 0, 0], iv .i64 0, iv .i64 0, bv false])]) (fun j z => runS (((cycF (cn, ci, cr, cq, cm) op).getD at_.toNat cycD).2.2.2.drop j) z = runS ((cycF (cn, ci, cr, cq, cm) op).getD at_.toNat cycD).2.2.2 (tellR ((cycF (cn, ci, cr, cq, cm) op).getD at_.toNat cycD) (fitR r) (data % 256)) ∧ z.length = 9) ((fitR r).set ((cycF (cn, ci, cr, cq, cm) op).getD at_.toNat cycD).2.2.1.toNat (data % 256)) (Le.mk [] [1, 3] rfl rfl (by exact rfl) (by repeat' first | exact trivial | exact ⟨rfl, rfl⟩ | refine And.intro ?_ ?_)) ⟨by rw [hR]; rfl, by rw [List.length_set]; rfl⟩ fun j z hj hi => ?_)
    | (have hbus : ((cycF (cn, ci, cr, cq, cm) op).getD at_.toNat cycD).1 = 1 := by assumption
       have hreg : ((cycF (cn, ci, cr, cq, cm) op).getD at_.toNat cycD).2.2.1 = 7 ∨ ((cycF (cn, ci, cr, cq, cm) op).getD at_.toNat cycD).2.2.1 = 8 := by assumption
       have hR : tellR ((cycF (cn, ci, cr, cq, cm) op).getD at_.toNat cycD) (fitR r) (data % 256) = ((fitR r).set ((cycF (cn, ci, cr, cq, cm) op).getD at_.toNat cycD).2.2.1.toNat (data % 256)) := if_pos ⟨hbus, by omega, by omega⟩
       refine up_go hT hP ((cycF (cn, ci, cr, cq, cm) op).getD at_.toNat cycD).2.2.2.length (fun i (z : List Int) => St.mk [.dead, .dead, .dead, .dead, .cell (.ptr 0 0), .dead, .cell (.ptr 1 0), .cell (.fn 78 [0]), .dead, .cell (.ro CycT (cycF (cn, ci, cr, cq, cm) op)), .dead, .dead, .dead, .dead, .dead, .dead, .dead, .dead, .dead, .dead, .dead, .dead, .dead, .dead, .dead, .dead, .dead, .dead, .dead, .dead, .dead, .dead, .dead, .dead, .dead, .dead, .dead, .dead, .dead, .dead, .dead, .dead, .dead, .dead, .dead, .dead, .dead, .dead, .dead, .dead, .dead, .dead, .dead, .dead, .dead, .dead, .dead, .dead, .dead, .dead, .dead, .dead, .dead, .dead, .dead, .dead, .dead, .dead, .dead, .dead, .dead, .dead, .dead, .dead, .dead, .dead, .dead, .dead, .dead, .dead, .dead, .dead, .dead, .dead, .dead, .dead, .dead, .dead, .dead, .dead, .dead, .dead, .dead, .cell (.ro StepT ((cycF (cn, ci, cr, cq, cm) op).getD at_.toNat cycD).2.2.2), I (((cycF (cn, ci, cr, cq, cm) op).getD at_.toNat cycD).2.2.2.length : Int), I i, .dead, .dead, .dead, .dead, .dead, .dead, .dead, .dead, .dead, .dead, .dead, .dead, .dead, .dead, .dead, .dead, .dead, .dead, .dead, .dead, .dead, .dead, .dead] [some (.var [.run .i64 9 z, iv .i64 op, iv .i64 (IntKind.i64.wrap (at_ + 1)), bv nmi]), some (.var [.run .i64 9 [0, 0, 0, 0, 0, 0, 0, 0, 0], iv .i64 0, iv .i64 0, bv false])]) (fun j z => runS (((cycF (cn, ci, cr, cq, cm) op).getD at_.toNat cycD).2.2.2.drop j) z = runS ((cycF (cn, ci, cr, cq, cm) op).getD at_.toNat cycD).2.2.2 (tellR ((cycF (cn, ci, cr, cq, cm) op).getD at_.toNat cycD) (fitR r) (data % 256)) ∧ z.length = 9) ((fitR r).set ((cycF (cn, ci, cr, cq, cm) op).getD at_.toNat cycD).2.2.1.toNat (data % 256)) (Le.mk [] [1, 3] rfl rfl (by exact rfl) (by repeat' first | exact trivial | exact ⟨rfl, rfl⟩ | refine And.intro ?_ ?_)) ⟨by rw [hR]; rfl, by rw [List.length_set]; rfl⟩ fun j z hj hi => ?_)
    | (have hreg : ¬ (0 ≤ ((cycF (cn, ci, cr, cq, cm) op).getD at_.toNat cycD).2.2.1 ∧ ((cycF (cn, ci, cr, cq, cm) op).getD at_.toNat cycD).2.2.1 ≤ 6) := by assumption
       have hreg2 : ¬ (((cycF (cn, ci, cr, cq, cm) op).getD at_.toNat cycD).2.2.1 = 7 ∨ ((cycF (cn, ci, cr, cq, cm) op).getD at_.toNat cycD).2.2.1 = 8) := by assumption
       have hR : tellR ((cycF (cn, ci, cr, cq, cm) op).getD at_.toNat cycD) (fitR r) (data % 256) = fitR r := if_neg (fun h => by obtain ⟨a, b, c⟩ := h; omega)
       refine up_go hT hP ((cycF (cn, ci, cr, cq, cm) op).getD at_.toNat cycD).2.2.2.length (fun i (z : List Int) => St.mk [.dead, .dead, .dead, .dead, .cell (.ptr 0 0), .dead, .cell (.ptr 1 0), .cell (.fn 78 [0]), .dead, .cell (.ro CycT (cycF (cn, ci, cr, cq, cm) op)), .dead, .dead, .dead, .dead, .dead, .dead, .dead, .dead, .dead, .dead, .dead, .dead, .dead, .dead, .dead, .dead, .dead, .dead, .dead, .dead, .dead, .dead, .dead, .dead, .dead, .dead, .dead, .dead, .dead, .dead, .dead, .dead, .dead, .dead, .dead, .dead, .dead, .dead, .dead, .dead, .dead, .dead, .dead, .dead, .dead, .dead, .dead, .dead, .dead, .dead, .dead, .dead, .dead, .dead, .dead, .dead, .dead, .dead, .dead, .dead, .dead, .dead, .dead, .dead, .dead, .dead, .dead, .dead, .dead, .dead, .dead, .dead, .dead, .dead, .dead, .dead, .dead, .dead, .dead, .dead, .dead, .dead, .dead, .cell (.ro StepT ((cycF (cn, ci, cr, cq, cm) op).getD at_.toNat cycD).2.2.2), I (((cycF (cn, ci, cr, cq, cm) op).getD at_.toNat cycD).2.2.2.length : Int), I i, .dead, .dead, .dead, .dead, .dead, .dead, .dead, .dead, .dead, .dead, .dead, .dead, .dead, .dead, .dead, .dead, .dead, .dead, .dead, .dead, .dead, .dead, .dead] [some (.var [.run .i64 9 z, iv .i64 op, iv .i64 (IntKind.i64.wrap (at_ + 1)), bv nmi]), some (.var [.run .i64 9 [0, 0, 0, 0, 0, 0, 0, 0, 0], iv .i64 0, iv .i64 0, bv false])]) (fun j z => runS (((cycF (cn, ci, cr, cq, cm) op).getD at_.toNat cycD).2.2.2.drop j) z = runS ((cycF (cn, ci, cr, cq, cm) op).getD at_.toNat cycD).2.2.2 (tellR ((cycF (cn, ci, cr, cq, cm) op).getD at_.toNat cycD) (fitR r) (data % 256)) ∧ z.length = 9) (fitR r) (Le.mk [] [1, 3] rfl rfl (by exact rfl) (by repeat' first | exact trivial | exact ⟨rfl, rfl⟩ | refine And.intro ?_ ?_)) ⟨by rw [hR]; rfl, rfl⟩ fun j z hj hi => ?_)
    | (have hbus : ¬ ((cycF (cn, ci, cr, cq, cm) op).getD at_.toNat cycD).1 = 1 := by assumption
       have hR : tellR ((cycF (cn, ci, cr, cq, cm) op).getD at_.toNat cycD) (fitR r) (data % 256) = fitR r := if_neg (fun h => hbus h.1)
       refine up_go hT hP ((cycF (cn, ci, cr, cq, cm) op).getD at_.toNat cycD).2.2.2.length (fun i (z : List Int) => St.mk [.dead, .dead, .dead, .dead, .cell (.ptr 0 0), .dead, .cell (.ptr 1 0), .cell (.fn 78 [0]), .dead, .cell (.ro CycT (cycF (cn, ci, cr, cq, cm) op)), .dead, .dead, .dead, .dead, .dead, .dead, .dead, .dead, .dead, .dead, .dead, .dead, .dead, .dead, .dead, .dead, .dead, .dead, .dead, .dead, .dead, .dead, .dead, .dead, .dead, .dead, .dead, .dead, .dead, .dead, .dead, .dead, .dead, .dead, .dead, .dead, .dead, .dead, .dead, .dead, .dead, .dead, .dead, .dead, .dead, .dead, .dead, .dead, .dead, .dead, .dead, .dead, .dead, .dead, .dead, .dead, .dead, .dead, .dead, .dead, .dead, .dead, .dead, .dead, .dead, .dead, .dead, .dead, .dead, .dead, .dead, .dead, .dead, .dead, .dead, .dead, .dead, .dead, .dead, .dead, .dead, .dead, .dead, .cell (.ro StepT ((cycF (cn, ci, cr, cq, cm) op).getD at_.toNat cycD).2.2.2), I (((cycF (cn, ci, cr, cq, cm) op).getD at_.toNat cycD).2.2.2.length : Int), I i, .dead, .dead, .dead, .dead, .dead, .dead, .dead, .dead, .dead, .dead, .dead, .dead, .dead, .dead, .dead, .dead, .dead, .dead, .dead, .dead, .dead, .dead, .dead] [some (.var [.run .i64 9 z, iv .i64 op, iv .i64 (IntKind.i64.wrap (at_ + 1)), bv nmi]), some (.var [.run .i64 9 [0, 0, 0, 0, 0, 0, 0, 0, 0], iv .i64 0, iv .i64 0, bv false])]) (fun j z => runS (((cycF (cn, ci, cr, cq, cm) op).getD at_.toNat cycD).2.2.2.drop j) z = runS ((cycF (cn, ci, cr, cq, cm) op).getD at_.toNat cycD).2.2.2 (tellR ((cycF (cn, ci, cr, cq, cm) op).getD at_.toNat cycD) (fitR r) (data % 256)) ∧ z.length = 9) (fitR r) (Le.mk [] [1, 3] rfl rfl (by exact rfl) (by repeat' first | exact trivial | exact ⟨rfl, rfl⟩ | refine And.intro ?_ ?_)) ⟨by rw [hR]; rfl, rfl⟩ fun j z hj hi => ?_)
    | skip
  all_goals
    obtain ⟨hi, hz⟩ := hi
    have hS' : ((cycF (cn, ci, cr, cq, cm) op).getD at_.toNat cycD).2.2.2.length * 32 ≤ 140737488351232 := hS
    repeat' first
      | (refine Go.mk ?_; conv => whnf)
      | refine Need.go ?_ ?_
      | refine NilG.go (fun _ => ?_) (fun _ => ?_)
      | refine Br.dec (fun _ => ?_) (fun _ => ?_)
      | refine Br.go (fun _ => ?_) (fun _ => ?_)
      | refine draw_go hT hP mixed ?_
      | refine round_go hT hP ?_
  all_goals (try simp only [castL_eq] at *)
  all_goals (try dsimp only at *)
  all_goals first
    | exact of_decide_eq_true rfl
    | exact hz
    | (show ci.length ≤ 4611686018427387904
       omega)
    | (show 0 ≤ (j : Int) ∧ (j : Int) < (((cycF (cn, ci, cr, cq, cm) op).getD at_.toNat cycD).2.2.2.length : Int)
       omega)
    | (show j < ((cycF (cn, ci, cr, cq, cm) op).getD at_.toNat cycD).2.2.2.length
       omega)
    | skip
  all_goals clear hT hP
  all_goals first
    | (rename_i g1 h
       have g1 : (j : Int) < (((cycF (cn, ci, cr, cq, cm) op).getD at_.toNat cycD).2.2.2.length : Int) := g1
       have he : doE (((cycF (cn, ci, cr, cq, cm) op).getD at_.toNat cycD).2.2.2.getD j (dflt StepT)) z = true := h
       have hrun : runS ((cycF (cn, ci, cr, cq, cm) op).getD at_.toNat cycD).2.2.2 (tellR ((cycF (cn, ci, cr, cq, cm) op).getD at_.toNat cycD) (fitR r) (data % 256)) = (doR (((cycF (cn, ci, cr, cq, cm) op).getD at_.toNat cycD).2.2.2.getD j (dflt StepT)) z, true) := by
         rw [← hi, stpDrop (by omega), runS, if_pos he]
       refine .mk [] [] _ rfl rfl rfl rfl rfl rfl (aggK ?_)
       rw [tellF_run (by assumption) hb hx hrun, if_pos (.inl rfl)]; rfl)
    | (rename_i g1 h
       have g1 : (j : Int) < (((cycF (cn, ci, cr, cq, cm) op).getD at_.toNat cycD).2.2.2.length : Int) := g1
       have he : ¬ doE (((cycF (cn, ci, cr, cq, cm) op).getD at_.toNat cycD).2.2.2.getD j (dflt StepT)) z = true := fun e => by
         have h : doE (((cycF (cn, ci, cr, cq, cm) op).getD at_.toNat cycD).2.2.2.getD j (dflt StepT)) z = false := h
         rw [h] at e; cases e
       apply Exists.intro
       apply Exists.intro (doR (((cycF (cn, ci, cr, cq, cm) op).getD at_.toNat cycD).2.2.2.getD j (dflt StepT)) z)
       refine And.intro (And.intro ?lt (And.intro ?ei ?inv)) (Le.mk [] [0, 1] rfl rfl ?hh ?ht)
       case hh => exact rfl
       case ht => repeat' first | exact trivial | exact ⟨rfl, rfl⟩ | refine And.intro ?_ ?_
       case lt => omega
       case ei => exact up_i (by omega)
       case inv =>
         rw [stpDrop (by omega), runS, if_neg he] at hi
         exact ⟨hi, doR_len _ _⟩)
    | (rename_i g1 h
       have g1 : ¬ (j : Int) < (((cycF (cn, ci, cr, cq, cm) op).getD at_.toNat cycD).2.2.2.length : Int) := g1
       have h : IntKind.i64.wrap (at_ + 1) = ((cycF (cn, ci, cr, cq, cm) op).length : Int) := h
       rw [ewa] at h
       have hrun : runS ((cycF (cn, ci, cr, cq, cm) op).getD at_.toNat cycD).2.2.2 (tellR ((cycF (cn, ci, cr, cq, cm) op).getD at_.toNat cycD) (fitR r) (data % 256)) = (z, false) := by
         rw [← hi, List.drop_of_length_le (by omega)]; rfl
       refine .mk [] [] _ rfl rfl rfl rfl rfl rfl (aggK ?_)
       rw [tellF_run (by assumption) hb hx hrun, if_pos (.inr (by omega))])
    | (rename_i g1 h
       have g1 : ¬ (j : Int) < (((cycF (cn, ci, cr, cq, cm) op).getD at_.toNat cycD).2.2.2.length : Int) := g1
       have h : ¬ IntKind.i64.wrap (at_ + 1) = ((cycF (cn, ci, cr, cq, cm) op).length : Int) := h
       rw [ewa] at h
       have hrun : runS ((cycF (cn, ci, cr, cq, cm) op).getD at_.toNat cycD).2.2.2 (tellR ((cycF (cn, ci, cr, cq, cm) op).getD at_.toNat cycD) (fitR r) (data % 256)) = (z, false) := by
         rw [← hi, List.drop_of_length_le (by omega)]; rfl
       refine .mk [] [] _ rfl rfl rfl rfl rfl rfl (aggK ?_)
       rw [tellF_run (by assumption) hb hx hrun, ewa, if_neg (fun e => e.elim (fun e => by cases e) (fun e => by omega))])
    | skip
  all_goals trace_state


def tlS : PSpec := ⟨[gCpu, gK, gi], fun (c, k, d, _) => (some (tellP c k), .cell (bv true), [])⟩
theorem tl_ok : Good Try.prog 5 tlS.spec := by
  have hT := tab_ok (fs := [(25, coresS.spec), (26, tellS.spec), (27, tellS.spec)]) tree_ok
  have hP : SpecsOk Try.prog (tab tree [(25, coresS.spec), (26, tellS.spec), (27, tellS.spec)]) := specs_cons cores_ok (specs_cons tell_ok (specs_cons answered_ok specs_nil))
  refine tlS.good (fn := Try.f5) hT hP Try.func5 (by kernel_rfl) rfl fun (c : Cpu) (k : Kor) (d : Int) hp => ?_
  obtain ⟨cn, ci, cr, cq, cm⟩ := c
  obtain ⟨r, op, at_, n⟩ := k
  have hz : tellP (cn, ci, cr, cq, cm) (r, op, at_, n) := hp _ rfl
  clear hp
  repeat' first
    | (refine Go.mk ?_; conv => whnf)
    | refine Need.go ?_ ?_
    | refine NilG.go (fun _ => ?_) (fun _ => ?_)
    | refine Br.dec (fun _ => ?_) (fun _ => ?_)
    | refine Br.go (fun _ => ?_) (fun _ => ?_)
    | refine draw_go hT hP mixed ?_
    | refine round_go hT hP ?_
  all_goals first
    | exact hz
    | exact of_decide_eq_true rfl
    | skip
  all_goals (try refine .mk [] [] _ rfl rfl rfl rfl rfl rfl (imm_bool ?_))
  all_goals clear hT hP
  all_goals (try simp only [castL_eq] at *)
  all_goals first
    | (rw [denEq_self rfl]; rfl)
    | (exfalso; rename_i h; rw [denEq_self rfl] at h; cases h; done)
    | (exfalso; rename_i h; exact h trivial)
    | skip

end Go.Proofs.Ytblnigjmcjpopaa
