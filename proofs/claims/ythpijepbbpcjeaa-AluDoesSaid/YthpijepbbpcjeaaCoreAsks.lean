/- The processor: what it asks of the bus, in the program and in the reference. -/
import Derived.Test.YthpijepbbpcjeaaCore
namespace Go.Proofs.Ythpijepbbpcjeaa
open Go.Fw
set_option linter.unusedVariables false
set_option linter.unusedSimpArgs false
set_option maxRecDepth 100000

abbrev Bsv := Int × Int × Int
def askF (c : Cpu) (k : Kor) (irq : Bool) : Kor × Bsv :=
  let k1 : Kor := if k.2.1 = -1 then startF c (fitR k.1, k.2) irq else (fitR k.1, k.2)
  if k1.2.1 = -1 then ((plR 0 k1.1, k1.2), (1, plA 0 k1.1, 0))
  else if canB c k1.2.1 k1.2.2.1 = false ∨ (doF c k1.2.1 k1.2.2.1).1 = 0 then (k1, (0, 0, 0))
  else
    let x := doF c k1.2.1 k1.2.2.1
    ((plR x.2.1 k1.1, k1.2), (x.1, plA x.2.1 k1.1, if x.1 = 2 ∧ 0 ≤ x.2.2.1 ∧ x.2.2.1 < 9 then k1.1.getD x.2.2.1.toNat 0 % 256 else 0))
theorem tupKB {r : List Int} {a b : Int} {n : Bool} {p q s : Int} {x : Kor × Bsv} (h : ((r, a, b, n), (p, q, s)) = x) : AV.tup [.agg [.run .i64 9 r, iv .i64 a, iv .i64 b, bv n], .agg [iv .i64 p, iv .i64 q, iv .i64 s]] =
    AV.tup [.agg [.run .i64 9 x.1.1, iv .i64 x.1.2.1, iv .i64 x.1.2.2.1, bv x.1.2.2.2], .agg [iv .i64 x.2.1, iv .i64 x.2.2.1, iv .i64 x.2.2.2]] := by subst h; rfl
def askP (c : Cpu) (k : Kor) : Prop := c.2.1.length ≤ 4611686018427387904 ∧ k.1.length = 9
theorem startF_fst (c : Cpu) (k : Kor) (i : Bool) : (startF c k i).1 = k.1 := by
  unfold startF; split
  · rfl
  · split <;> rfl
theorem startF_out (c : Cpu) (k : Kor) (i : Bool) : ∃ a b n, startF c k i = (k.1, a, b, n) := ⟨(startF c k i).2.1, (startF c k i).2.2.1, (startF c k i).2.2.2, by rw [← startF_fst c k i]⟩
def askS : PSpec := ⟨[gCpu, gK, gB], fun (c, k, i, _) => (some (askP c k), .tup [.agg [.run .i64 9 (askF c k i).1.1, iv .i64 (askF c k i).1.2.1, iv .i64 (askF c k i).1.2.2.1, bv (askF c k i).1.2.2.2], .agg [iv .i64 (askF c k i).2.1, iv .i64 (askF c k i).2.2.1, iv .i64 (askF c k i).2.2.2]], [])⟩
set_option maxHeartbeats 4000000 in
theorem ask_ok : Good Try.prog 61 askS.spec := by
  have hT := tab_ok (fs := [(71, fitS.spec), (113, startS.spec), (114, placeRS.spec), (115, doingS.spec), (94, lowM.spec)]) tree_ok
  have hP : SpecsOk Try.prog (tab tree [(71, fitS.spec), (113, startS.spec), (114, placeRS.spec), (115, doingS.spec), (94, lowM.spec)]) := specs_cons aFit_ok (specs_cons start_ok (specs_cons cPlace_ok (specs_cons doing_ok (specs_cons lowM_ok specs_nil))))
  refine askS.good (fn := Try.f61) hT hP Try.func61 (by kernel_rfl) rfl fun (c : Cpu) (k : Kor) (i : Bool) hp => ?_
  obtain ⟨cn, ci, cr, cq, cm⟩ := c
  obtain ⟨r, op, at_, n⟩ := k
  obtain ⟨hz, h9⟩ : ci.length ≤ 4611686018427387904 ∧ r.length = 9 := hp _ rfl
  clear hp
  repeat' first
    | (refine Go.mk ?_; conv => whnf)
    | refine Need.go ?_ ?_
    | refine NilG.go (fun _ => ?_) (fun _ => ?_)
    | refine Br.dec (fun _ => ?_) (fun _ => ?_)
    | refine Br.go (fun _ => ?_) (fun _ => ?_)
    | refine draw_go hT hP mixed ?_
    | refine round_go hT hP ?_
  all_goals first
    | exact of_decide_eq_true rfl
    | exact hz
    | exact h9
    | exact ⟨hz, _, rfl⟩
    | exact ⟨_, rfl⟩
    | skip
  all_goals (try refine .mk [] [] _ rfl rfl rfl rfl rfl rfl (tupKB ?_))
  all_goals (simp only [castL_eq, askF] at *)
  all_goals
    have hs := startF_fst (cn, ci, cr, cq, cm) (fitR r, op, at_, n) i
    generalize startF (cn, ci, cr, cq, cm) (fitR r, op, at_, n) i = z at *
    obtain ⟨r2, o2, a2, n2⟩ := z
    dsimp only at *
    subst hs
  all_goals (try exact ⟨_, rfl⟩)
  all_goals (try omega)
  all_goals clear hT hP
  all_goals (try simp_all)
  all_goals (try omega)

theorem fit_in (r : List Int) (n : Nat) : 0 ≤ (fitR r).getD n 0 ∧ (fitR r).getD n 0 < 65536 := by
  match n with
  | 0 | 1 | 2 | 3 | 4 | 5 | 6 | 7 | 8 => simp [fitR]; omega
  | n + 9 => simp [fitR]
theorem fit_3 (r : List Int) : (fitR r).getD 4 0 < 256 := by simp [fitR]; omega
theorem tmod_fit (r : List Int) (n : Nat) (k : Int) : ((fitR r).getD n 0).tmod k = (fitR r).getD n 0 % k := Int.tmod_eq_emod_of_nonneg (fit_in r n).1
theorem tdiv_fit (r : List Int) (n : Nat) (k : Int) : ((fitR r).getD n 0).tdiv k = (fitR r).getD n 0 / k := Int.tdiv_eq_ediv_of_nonneg (fit_in r n).1
theorem inc_fit (r : List Int) (n : Nat) : (IntKind.i64.wrap ((fitR r).getD n 0 + 1)).tmod 65536 = ((fitR r).getD n 0 + 1) % 65536 := by
  have := fit_in r n
  rw [w64 (by omega) (by omega), Int.tmod_eq_emod_of_nonneg (by omega)]
theorem bit4 (r : List Int) : (IntKind.i64.wrap ((fitR r).getD 4 0 / 4)).tmod 2 = (fitR r).getD 4 0 / 4 % 2 := by
  have := fit_in r 4
  rw [w64 (by omega) (by omega), Int.tmod_eq_emod_of_nonneg (by omega)]
theorem dfltC : (dflt CycT : Cyc) = cycD := rfl
theorem i0 : Int.toNat 0 = 0 := rfl
theorem i4 : Int.toNat 4 = 4 := rfl
theorem i7 : Int.toNat 7 = 7 := rfl
theorem c256 (c : Cpu) : cycF c 256 = c.2.2.2.1 := rfl
theorem c257 (c : Cpu) : cycF c 257 = c.2.2.2.2 := rfl
set_option maxHeartbeats 4000000 in
theorem asked_ok : Good Try.prog 62 askS.spec := by
  have hT := tab_ok (fs := [(72, fitS.spec), (116, cycS.spec), (119, addrS.spec), (118, wideS.spec), (117, narrowS.spec)]) tree_ok
  have hP : SpecsOk Try.prog (tab tree [(72, fitS.spec), (116, cycS.spec), (119, addrS.spec), (118, wideS.spec), (117, narrowS.spec)]) := specs_cons rFit_ok (specs_cons cycOf_ok (specs_cons rAddr_ok (specs_cons rWide_ok (specs_cons rNarrow_ok specs_nil))))
  refine askS.good (fn := Try.f62) hT hP Try.func62 (by kernel_rfl) rfl fun (c : Cpu) (k : Kor) (i : Bool) hp => ?_
  obtain ⟨cn, ci, cr, cq, cm⟩ := c
  obtain ⟨r, op, at_, n⟩ := k
  obtain ⟨hz, h9⟩ : ci.length ≤ 4611686018427387904 ∧ r.length = 9 := hp _ rfl
  clear hp
  repeat' first
    | (refine Go.mk ?_; conv => whnf)
    | refine Need.go ?_ ?_
    | refine NilG.go (fun _ => ?_) (fun _ => ?_)
    | refine Br.dec (fun _ => ?_) (fun _ => ?_)
    | refine Br.go (fun _ => ?_) (fun _ => ?_)
    | refine draw_go hT hP mixed ?_
    | refine round_go hT hP ?_
  all_goals first
    | exact of_decide_eq_true rfl
    | exact hz
    | exact h9
    | exact ⟨_, rfl⟩
    | skip
  all_goals (try refine .mk [] [] _ rfl rfl rfl rfl rfl rfl (tupKB ?_))
  all_goals (simp only [castL_eq] at *)
  all_goals (try omega)
  all_goals clear hT hP
  all_goals (try simp only [tdiv_fit, i4, i7, i0] at *)
  all_goals (try simp only [tmod_fit, bit4, inc_fit, dfltC] at *)
  all_goals (try simp_all [askF, startF, canB, doF, c256, c257, plA, plR])
  all_goals (try omega)
  · exfalso
    rename_i g1 g2 g3 g4
    have g4 : (0 : Int) ≥ (cm.length : Int) := g4
    omega
  · rename_i g1 g2
    have hc : canB (cn, ci, cr, cq, cm) op at_ = false := by unfold canB; rw [decide_eq_false (show ¬ 0 ≤ at_ by omega)]; simp
    simp only [askF, if_neg g1, hc, true_or, if_true]

end Go.Proofs.Ythpijepbbpcjeaa
