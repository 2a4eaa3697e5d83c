/- Part 10 of the proof: Sames2 Sames3 SoundTicks CoreLaw CoreTells. No statement is handed in here; conditions: none. -/
import Derived.Test.YtblnigjmcjpopaaG9
import Derived.Test.YtblnigjmcjpopaaG8
/- Tables of instructions compared: instructions. -/
namespace Go.Proofs.Ytblnigjmcjpopaa
open Go.Fw
set_option linter.unusedVariables false
set_option linter.unusedSimpArgs false
set_option linter.constructorNameAsVariable false
set_option maxRecDepth 100000

def okL (l : List Cyc) : Prop := l.length ≤ 4611686018427387904 ∧ ∀ x ∈ l, x.2.2.2.length ≤ 4611686018427387904
noncomputable def sameCycS : PSpec := ⟨[⟨false, .sl CycT⟩, ⟨false, .sl CycT⟩], fun (l, m, _) => (some (okL l), .cell (bv (eqB (l : List Cyc) m)), [])⟩
theorem sameCyc_ok : GoodF Try.prog 59 sameCycS.spec := by
  have hT := tab_ok (fs := [(61, eqcWS.spec)]) tree_ok
  have hP : SpecsOk Try.prog (tab tree [(61, eqcWS.spec)]) := specs_cons eqc_ok specs_nil
  refine sameCycS.good (fn := Try.f59) hT hP Try.func59 (by kernel_rfl) rfl fun (l m : List Cyc) hq => ?_
  obtain ⟨h1, h2⟩ : okL l := hq _ rfl
  clear hq
  repeat' first
    | (refine Go.mk ?_; conv => whnf)
    | refine Need.go ?_ ?_
    | refine NilG.go (fun _ => ?_) (fun _ => ?_)
    | refine Br.dec (fun _ => ?_) (fun _ => ?_)
    | refine Br.go (fun _ => ?_) (fun _ => ?_)
    | refine draw_go hT hP mixed ?_
    | refine round_go hT hP ?_
  · exact ⟨.inl rfl, h1, h2⟩
  · exact .mk [] [] _ rfl rfl rfl rfl rfl rfl rfl
noncomputable def insB (x y : Ins) : Bool := decide (x.1 = y.1) && (strEq x.2.1 y.2.1 && (decide (x.2.2.1 = y.2.2.1) && eqB x.2.2.2 y.2.2.2))
theorem insB_iff {x y : Ins} : insB x y = true ↔ x = y := by
  obtain ⟨a, b, c, l⟩ := x
  obtain ⟨a', b', c', l'⟩ := y
  have hs : strEq b b' = true ↔ b = b' := Lib.bytes_beq_iff b b'
  simp [insB, hs, eqB_iff, Prod.mk.injEq]
noncomputable def eqInsS : PSpec := ⟨[gIns, gIns], fun (x, y, _) => (some (okL x.2.2.2), .cell (bv (insB x y)), [])⟩
theorem eqIns1_ok : GoodF Try.prog 60 eqInsS.spec := by
  have hT := tab_ok (fs := [(59, sameCycS.spec)]) tree_ok
  have hP : SpecsOk Try.prog (tab tree [(59, sameCycS.spec)]) := specs_cons sameCyc_ok specs_nil
  refine eqInsS.good (fn := Try.f60) hT hP Try.func60 (by kernel_rfl) rfl fun (x y : Ins) hq => ?_
  obtain ⟨a, b, c, l⟩ := x
  obtain ⟨a', b', c', l'⟩ := y
  have hl : okL l := hq _ rfl
  clear hq
  repeat' first
    | (refine Go.mk ?_; conv => whnf)
    | refine Need.go ?_ ?_
    | refine NilG.go (fun _ => ?_) (fun _ => ?_)
    | refine Br.dec (fun _ => ?_) (fun _ => ?_)
    | refine Br.go (fun _ => ?_) (fun _ => ?_)
    | refine draw_go hT hP mixed ?_
    | refine round_go hT hP ?_
  all_goals first
    | exact of_decide_eq_true rfl
    | exact hl
    | skip
  all_goals (refine .mk [] [] _ rfl rfl rfl rfl rfl rfl (imm_bool ?_))
  all_goals clear hT hP
  all_goals (show _ = (decide (a = a') && (strEq b b' && (decide (c = c') && eqB l l'))))
  all_goals (try simp only [castL_eq] at *)
  all_goals (simp_all)
theorem eqIns2_ok : GoodF Try.prog 17 eqInsS.spec := by
  have hT := tab_ok (fs := [(61, eqcWS.spec)]) tree_ok
  have hP : SpecsOk Try.prog (tab tree [(61, eqcWS.spec)]) := specs_cons eqc_ok specs_nil
  refine eqInsS.good (fn := Try.f17) hT hP Try.func17 (by kernel_rfl) rfl fun (x y : Ins) hq => ?_
  obtain ⟨a, b, c, l⟩ := x
  obtain ⟨a', b', c', l'⟩ := y
  have hl : okL l := hq _ rfl
  clear hq
  repeat' first
    | (refine Go.mk ?_; conv => whnf)
    | refine Need.go ?_ ?_
    | refine NilG.go (fun _ => ?_) (fun _ => ?_)
    | refine Br.dec (fun _ => ?_) (fun _ => ?_)
    | refine Br.go (fun _ => ?_) (fun _ => ?_)
    | refine draw_go hT hP mixed ?_
    | refine round_go hT hP ?_
  all_goals first
    | exact of_decide_eq_true rfl
    | exact ⟨.inr rfl, hl.1, hl.2⟩
    | skip
  all_goals (refine .mk [] [] _ rfl rfl rfl rfl rfl rfl (imm_bool ?_))
  all_goals clear hT hP
  all_goals (show _ = (decide (a = a') && (strEq b b' && (decide (c = c') && eqB l l'))))
  all_goals (try simp only [castL_eq] at *)
  all_goals (simp_all)

structure EqiX where
  own : Bool
  g : Nat
  l : List Ins
  m : List Ins
def eqiRd : List V1 → List Blk → Option EqiX := fun a b => match a, b with
  | [.c (.ro (.pair (.int .i64) (.pair .str (.pair (.int .i64) (.sl (.pair (.int .i64) (.pair (.int .i64) (.pair (.int .i64) (.sl (.pair (.int .i64) (.pair (.int .i64) (.pair (.int .i64) (.int .i64)))))))))))) l), .c (.ro (.pair (.int .i64) (.pair .str (.pair (.int .i64) (.sl (.pair (.int .i64) (.pair (.int .i64) (.pair (.int .i64) (.sl (.pair (.int .i64) (.pair (.int .i64) (.pair (.int .i64) (.int .i64)))))))))))) m), .c (.fn g [])], [] => some ⟨false, g, l, m⟩
  | [.c (.own 0), .c (.own 1), .c (.fn g [])], [.arr (.pair (.int .i64) (.pair .str (.pair (.int .i64) (.sl (.pair (.int .i64) (.pair (.int .i64) (.pair (.int .i64) (.sl (.pair (.int .i64) (.pair (.int .i64) (.pair (.int .i64) (.int .i64)))))))))))) l, .arr (.pair (.int .i64) (.pair .str (.pair (.int .i64) (.sl (.pair (.int .i64) (.pair (.int .i64) (.pair (.int .i64) (.sl (.pair (.int .i64) (.pair (.int .i64) (.pair (.int .i64) (.int .i64)))))))))))) m] => some ⟨true, g, l, m⟩
  | _, _ => none
def eqiArgs : EqiX → List V1
  | ⟨false, g, l, m⟩ => [.c (.ro InsT l), .c (.ro InsT m), .c (.fn g [])]
  | ⟨true, g, l, m⟩ => [.c (.own 0), .c (.own 1), .c (.fn g [])]
def eqiBl : EqiX → List Blk
  | ⟨false, _, _, _⟩ => []
  | ⟨true, _, l, m⟩ => [.arr InsT l, .arr InsT m]
theorem eqiRd_ok {a : List V1} {b : List Blk} {x : EqiX} (h : eqiRd a b = some x) : a = eqiArgs x ∧ b = eqiBl x := by
  unfold eqiRd at h
  split at h
  · injection h with h; subst h; exact ⟨rfl, rfl⟩
  · injection h with h; subst h; exact ⟨rfl, rfl⟩
  · cases h
def eqiP (g : Nat) (l : List Ins) : Prop := (g = 60 ∨ g = 17) ∧ l.length ≤ 4611686018427387904 ∧ ∀ x ∈ l, okL x.2.2.2
noncomputable def eqiOut : EqiX → Option Prop × AV × List (Option Blk) × List Blk
  | ⟨false, g, l, m⟩ => (some (eqiP g l), .cell (bv (eqB l m)), [], [])
  | ⟨true, g, l, m⟩ => (some (eqiP g l), .cell (bv (eqB l m)), [some (.arr InsT l), some (.arr InsT m)], [])
noncomputable def eqiWS : WSpec := ⟨EqiX, eqiArgs, eqiBl, eqiRd, eqiOut⟩
theorem eqInsL_ok : GoodF Try.prog 16 eqiWS.spec := by
  have hT := tab_ok (fs := [(60, eqInsS.spec), (17, eqInsS.spec)]) tree_ok
  have hP : SpecsOk Try.prog (tab tree [(60, eqInsS.spec), (17, eqInsS.spec)]) := specs_cons eqIns1_ok (specs_cons eqIns2_ok specs_nil)
  refine eqiWS.good (fn := Try.f16) hT hP Try.func16 (by kernel_rfl) rfl (fun _ _ _ h => eqiRd_ok h) fun (x : EqiX) hq => ?_
  obtain ⟨own, g, l, m⟩ := x
  have hp : eqiP g l := by cases own <;> exact hq _ rfl
  clear hq
  obtain ⟨hg, hl, hs⟩ := hp
  cases own with
  | false =>
    rcases hg with rfl | rfl
    · repeat' first
        | (refine Go.mk ?_; conv => whnf)
        | refine Need.go ?_ ?_
        | refine NilG.go (fun _ => ?_) (fun _ => ?_)
        | refine Br.dec (fun _ => ?_) (fun _ => ?_)
        | refine Br.go (fun _ => ?_) (fun _ => ?_)
        | refine draw_go hT hP mixed ?_
        | refine round_go hT hP ?_
      · rename_i h
        have h : (l.length : Int) ≠ (m.length : Int) := by simpa using h
        refine .mk [] [] _ rfl rfl rfl rfl rfl rfl (imm_bool ?_)
        exact (eqB_f (fun e => h (by rw [e]))).symm
      rename_i h
      have h : (l.length : Int) = (m.length : Int) := by simpa using h
      have hm : l.length = m.length := by omega
      refine up_go hT hP (A := Unit) l.length (fun i _ => St.mk [.dead, .cell (.ro InsT m), .cell (.fn 60 []), .dead, .dead, .dead, .dead, .dead, .dead, .dead, .dead, .dead, .dead, .dead, .dead, .cell (.ro InsT l), I (l.length : Int), I i, .dead, .dead, .dead, .dead, .dead, .dead, .dead, .dead, .dead, .dead, .dead, .dead, .dead, .dead] [])
        (fun k _ => l.take k = m.take k) () (Le.mk [] [] rfl rfl rfl ?_) (by simp) fun k _ hk hi => ?_
      · repeat' first | exact trivial | exact ⟨rfl, rfl⟩ | refine And.intro ?_ ?_
      repeat' first
        | (refine Go.mk ?_; conv => whnf)
        | refine Need.go ?_ ?_
        | refine NilG.go (fun _ => ?_) (fun _ => ?_)
        | refine Br.dec (fun _ => ?_) (fun _ => ?_)
        | refine Br.go (fun _ => ?_) (fun _ => ?_)
        | refine draw_go hT hP mixed ?_
        | refine round_go hT hP ?_
      all_goals clear hT hP
      all_goals first
        | exact of_decide_eq_true rfl
        | (rename_i g1
           have g1 : (k : Int) < (l.length : Int) := g1
           first
             | (show 0 ≤ (k : Int) ∧ (k : Int) < (l.length : Int)
                omega)
             | (show 0 ≤ (k : Int) ∧ (k : Int) < (m.length : Int)
                omega)
             | (show k < l.length
                omega)
             | (show k < m.length
                omega)
             | exact hs _ (ins_mem (k := k) (by omega)))
        | (rename_i g1 h2
           have g1 : (k : Int) < (l.length : Int) := g1
           have h2 : (!insB (l.getD k (dflt InsT)) (m.getD k (dflt InsT))) = true := h2
           have hne : l.getD k (dflt InsT) ≠ m.getD k (dflt InsT) := fun e => by
             rw [insB_iff.2 e] at h2; cases h2
           refine .mk [] [] _ rfl rfl rfl rfl rfl rfl (imm_bool ?_)
           exact (eqB_f (ne_at (dflt InsT) hne)).symm)
        | (rename_i g1 h2
           have g1 : (k : Int) < (l.length : Int) := g1
           have h2 : (!insB (l.getD k (dflt InsT)) (m.getD k (dflt InsT))) = false := h2
           have he : l.getD k (dflt InsT) = m.getD k (dflt InsT) := insB_iff.1 (by simpa using h2)
           apply Exists.intro
           apply Exists.intro ()
           refine And.intro (And.intro ?lt (And.intro ?ei ?inv)) (Le.mk [] [] rfl rfl ?hh ?ht)
           case hh => exact rfl
           case ht => repeat' first | exact trivial | exact ⟨rfl, rfl⟩ | refine And.intro ?_ ?_
           case lt => omega
           case ei => exact up_i (by omega)
           case inv => exact take_eq (dflt InsT) (by omega) (by omega) hi he)
        | (rename_i g1
           have g1 : ¬ (k : Int) < (l.length : Int) := g1
           refine .mk [] [] _ rfl rfl rfl rfl rfl rfl (imm_bool ?_)
           exact (eqB_t (eq_take hm (by omega) hi)).symm)
        | skip
      all_goals trace_state
    · repeat' first
        | (refine Go.mk ?_; conv => whnf)
        | refine Need.go ?_ ?_
        | refine NilG.go (fun _ => ?_) (fun _ => ?_)
        | refine Br.dec (fun _ => ?_) (fun _ => ?_)
        | refine Br.go (fun _ => ?_) (fun _ => ?_)
        | refine draw_go hT hP mixed ?_
        | refine round_go hT hP ?_
      · rename_i h
        have h : (l.length : Int) ≠ (m.length : Int) := by simpa using h
        refine .mk [] [] _ rfl rfl rfl rfl rfl rfl (imm_bool ?_)
        exact (eqB_f (fun e => h (by rw [e]))).symm
      rename_i h
      have h : (l.length : Int) = (m.length : Int) := by simpa using h
      have hm : l.length = m.length := by omega
      refine up_go hT hP (A := Unit) l.length (fun i _ => St.mk [.dead, .cell (.ro InsT m), .cell (.fn 17 []), .dead, .dead, .dead, .dead, .dead, .dead, .dead, .dead, .dead, .dead, .dead, .dead, .cell (.ro InsT l), I (l.length : Int), I i, .dead, .dead, .dead, .dead, .dead, .dead, .dead, .dead, .dead, .dead, .dead, .dead, .dead, .dead] [])
        (fun k _ => l.take k = m.take k) () (Le.mk [] [] rfl rfl rfl ?_) (by simp) fun k _ hk hi => ?_
      · repeat' first | exact trivial | exact ⟨rfl, rfl⟩ | refine And.intro ?_ ?_
      repeat' first
        | (refine Go.mk ?_; conv => whnf)
        | refine Need.go ?_ ?_
        | refine NilG.go (fun _ => ?_) (fun _ => ?_)
        | refine Br.dec (fun _ => ?_) (fun _ => ?_)
        | refine Br.go (fun _ => ?_) (fun _ => ?_)
        | refine draw_go hT hP mixed ?_
        | refine round_go hT hP ?_
      all_goals clear hT hP
      all_goals first
        | exact of_decide_eq_true rfl
        | (rename_i g1
           have g1 : (k : Int) < (l.length : Int) := g1
           first
             | (show 0 ≤ (k : Int) ∧ (k : Int) < (l.length : Int)
                omega)
             | (show 0 ≤ (k : Int) ∧ (k : Int) < (m.length : Int)
                omega)
             | (show k < l.length
                omega)
             | (show k < m.length
                omega)
             | exact hs _ (ins_mem (k := k) (by omega)))
        | (rename_i g1 h2
           have g1 : (k : Int) < (l.length : Int) := g1
           have h2 : (!insB (l.getD k (dflt InsT)) (m.getD k (dflt InsT))) = true := h2
           have hne : l.getD k (dflt InsT) ≠ m.getD k (dflt InsT) := fun e => by
             rw [insB_iff.2 e] at h2; cases h2
           refine .mk [] [] _ rfl rfl rfl rfl rfl rfl (imm_bool ?_)
           exact (eqB_f (ne_at (dflt InsT) hne)).symm)
        | (rename_i g1 h2
           have g1 : (k : Int) < (l.length : Int) := g1
           have h2 : (!insB (l.getD k (dflt InsT)) (m.getD k (dflt InsT))) = false := h2
           have he : l.getD k (dflt InsT) = m.getD k (dflt InsT) := insB_iff.1 (by simpa using h2)
           apply Exists.intro
           apply Exists.intro ()
           refine And.intro (And.intro ?lt (And.intro ?ei ?inv)) (Le.mk [] [] rfl rfl ?hh ?ht)
           case hh => exact rfl
           case ht => repeat' first | exact trivial | exact ⟨rfl, rfl⟩ | refine And.intro ?_ ?_
           case lt => omega
           case ei => exact up_i (by omega)
           case inv => exact take_eq (dflt InsT) (by omega) (by omega) hi he)
        | (rename_i g1
           have g1 : ¬ (k : Int) < (l.length : Int) := g1
           refine .mk [] [] _ rfl rfl rfl rfl rfl rfl (imm_bool ?_)
           exact (eqB_t (eq_take hm (by omega) hi)).symm)
        | skip
      all_goals trace_state
  | true =>
    rcases hg with rfl | rfl
    · repeat' first
        | (refine Go.mk ?_; conv => whnf)
        | refine Need.go ?_ ?_
        | refine NilG.go (fun _ => ?_) (fun _ => ?_)
        | refine Br.dec (fun _ => ?_) (fun _ => ?_)
        | refine Br.go (fun _ => ?_) (fun _ => ?_)
        | refine draw_go hT hP mixed ?_
        | refine round_go hT hP ?_
      · rename_i h
        have h : (l.length : Int) ≠ (m.length : Int) := by simpa using h
        refine .mk [] [0, 1] _ rfl rfl rfl rfl rfl rfl (imm_bool ?_)
        exact (eqB_f (fun e => h (by rw [e]))).symm
      rename_i h
      have h : (l.length : Int) = (m.length : Int) := by simpa using h
      have hm : l.length = m.length := by omega
      refine up_go hT hP (A := Unit) l.length (fun i _ => St.mk [.dead, .cell (.own 1), .cell (.fn 60 []), .dead, .dead, .dead, .dead, .dead, .dead, .dead, .dead, .dead, .dead, .dead, .dead, .cell (.own 0), I (l.length : Int), I i, .dead, .dead, .dead, .dead, .dead, .dead, .dead, .dead, .dead, .dead, .dead, .dead, .dead, .dead] [some (.arr InsT l), some (.arr InsT m)])
        (fun k _ => l.take k = m.take k) () (Le.mk [] [0, 1] rfl rfl rfl ?_) (by simp) fun k _ hk hi => ?_
      · repeat' first | exact trivial | exact ⟨rfl, rfl⟩ | refine And.intro ?_ ?_
      repeat' first
        | (refine Go.mk ?_; conv => whnf)
        | refine Need.go ?_ ?_
        | refine NilG.go (fun _ => ?_) (fun _ => ?_)
        | refine Br.dec (fun _ => ?_) (fun _ => ?_)
        | refine Br.go (fun _ => ?_) (fun _ => ?_)
        | refine draw_go hT hP mixed ?_
        | refine round_go hT hP ?_
      all_goals clear hT hP
      all_goals first
        | exact of_decide_eq_true rfl
        | (rename_i g1
           have g1 : (k : Int) < (l.length : Int) := g1
           first
             | (show 0 ≤ (k : Int) ∧ (k : Int) < (l.length : Int)
                omega)
             | (show 0 ≤ (k : Int) ∧ (k : Int) < (m.length : Int)
                omega)
             | (show k < l.length
                omega)
             | (show k < m.length
                omega)
             | exact hs _ (ins_mem (k := k) (by omega)))
        | (rename_i g1 h2
           have g1 : (k : Int) < (l.length : Int) := g1
           have h2 : (!insB (l.getD k (dflt InsT)) (m.getD k (dflt InsT))) = true := h2
           have hne : l.getD k (dflt InsT) ≠ m.getD k (dflt InsT) := fun e => by
             rw [insB_iff.2 e] at h2; cases h2
           refine .mk [] [0, 1] _ rfl rfl rfl rfl rfl rfl (imm_bool ?_)
           exact (eqB_f (ne_at (dflt InsT) hne)).symm)
        | (rename_i g1 h2
           have g1 : (k : Int) < (l.length : Int) := g1
           have h2 : (!insB (l.getD k (dflt InsT)) (m.getD k (dflt InsT))) = false := h2
           have he : l.getD k (dflt InsT) = m.getD k (dflt InsT) := insB_iff.1 (by simpa using h2)
           apply Exists.intro
           apply Exists.intro ()
           refine And.intro (And.intro ?lt (And.intro ?ei ?inv)) (Le.mk [] [0, 1] rfl rfl ?hh ?ht)
           case hh => exact rfl
           case ht => repeat' first | exact trivial | exact ⟨rfl, rfl⟩ | refine And.intro ?_ ?_
           case lt => omega
           case ei => exact up_i (by omega)
           case inv => exact take_eq (dflt InsT) (by omega) (by omega) hi he)
        | (rename_i g1
           have g1 : ¬ (k : Int) < (l.length : Int) := g1
           refine .mk [] [0, 1] _ rfl rfl rfl rfl rfl rfl (imm_bool ?_)
           exact (eqB_t (eq_take hm (by omega) hi)).symm)
        | skip
      all_goals trace_state
    · repeat' first
        | (refine Go.mk ?_; conv => whnf)
        | refine Need.go ?_ ?_
        | refine NilG.go (fun _ => ?_) (fun _ => ?_)
        | refine Br.dec (fun _ => ?_) (fun _ => ?_)
        | refine Br.go (fun _ => ?_) (fun _ => ?_)
        | refine draw_go hT hP mixed ?_
        | refine round_go hT hP ?_
      · rename_i h
        have h : (l.length : Int) ≠ (m.length : Int) := by simpa using h
        refine .mk [] [0, 1] _ rfl rfl rfl rfl rfl rfl (imm_bool ?_)
        exact (eqB_f (fun e => h (by rw [e]))).symm
      rename_i h
      have h : (l.length : Int) = (m.length : Int) := by simpa using h
      have hm : l.length = m.length := by omega
      refine up_go hT hP (A := Unit) l.length (fun i _ => St.mk [.dead, .cell (.own 1), .cell (.fn 17 []), .dead, .dead, .dead, .dead, .dead, .dead, .dead, .dead, .dead, .dead, .dead, .dead, .cell (.own 0), I (l.length : Int), I i, .dead, .dead, .dead, .dead, .dead, .dead, .dead, .dead, .dead, .dead, .dead, .dead, .dead, .dead] [some (.arr InsT l), some (.arr InsT m)])
        (fun k _ => l.take k = m.take k) () (Le.mk [] [0, 1] rfl rfl rfl ?_) (by simp) fun k _ hk hi => ?_
      · repeat' first | exact trivial | exact ⟨rfl, rfl⟩ | refine And.intro ?_ ?_
      repeat' first
        | (refine Go.mk ?_; conv => whnf)
        | refine Need.go ?_ ?_
        | refine NilG.go (fun _ => ?_) (fun _ => ?_)
        | refine Br.dec (fun _ => ?_) (fun _ => ?_)
        | refine Br.go (fun _ => ?_) (fun _ => ?_)
        | refine draw_go hT hP mixed ?_
        | refine round_go hT hP ?_
      all_goals clear hT hP
      all_goals first
        | exact of_decide_eq_true rfl
        | (rename_i g1
           have g1 : (k : Int) < (l.length : Int) := g1
           first
             | (show 0 ≤ (k : Int) ∧ (k : Int) < (l.length : Int)
                omega)
             | (show 0 ≤ (k : Int) ∧ (k : Int) < (m.length : Int)
                omega)
             | (show k < l.length
                omega)
             | (show k < m.length
                omega)
             | exact hs _ (ins_mem (k := k) (by omega)))
        | (rename_i g1 h2
           have g1 : (k : Int) < (l.length : Int) := g1
           have h2 : (!insB (l.getD k (dflt InsT)) (m.getD k (dflt InsT))) = true := h2
           have hne : l.getD k (dflt InsT) ≠ m.getD k (dflt InsT) := fun e => by
             rw [insB_iff.2 e] at h2; cases h2
           refine .mk [] [0, 1] _ rfl rfl rfl rfl rfl rfl (imm_bool ?_)
           exact (eqB_f (ne_at (dflt InsT) hne)).symm)
        | (rename_i g1 h2
           have g1 : (k : Int) < (l.length : Int) := g1
           have h2 : (!insB (l.getD k (dflt InsT)) (m.getD k (dflt InsT))) = false := h2
           have he : l.getD k (dflt InsT) = m.getD k (dflt InsT) := insB_iff.1 (by simpa using h2)
           apply Exists.intro
           apply Exists.intro ()
           refine And.intro (And.intro ?lt (And.intro ?ei ?inv)) (Le.mk [] [0, 1] rfl rfl ?hh ?ht)
           case hh => exact rfl
           case ht => repeat' first | exact trivial | exact ⟨rfl, rfl⟩ | refine And.intro ?_ ?_
           case lt => omega
           case ei => exact up_i (by omega)
           case inv => exact take_eq (dflt InsT) (by omega) (by omega) hi he)
        | (rename_i g1
           have g1 : ¬ (k : Int) < (l.length : Int) := g1
           refine .mk [] [0, 1] _ rfl rfl rfl rfl rfl rfl (imm_bool ?_)
           exact (eqB_t (eq_take hm (by omega) hi)).symm)
        | skip
      all_goals trace_state

end Go.Proofs.Ytblnigjmcjpopaa

/- bakelaw1.TableSames answers true, whatever it is given. -/
namespace Go.Proofs.Ytblnigjmcjpopaa
open Go.Fw
set_option linter.unusedVariables false
set_option linter.unusedSimpArgs false
set_option linter.constructorNameAsVariable false
set_option maxRecDepth 100000

def tsP (c : Cpu) : Prop := cpuOk c ∧ (okCyc c.2.2.1 ∧ okCyc c.2.2.2.1 ∧ okCyc c.2.2.2.2)
theorem okL_of {l : List Cyc} (h : okCyc l) : okL l := ⟨by have := h.1; omega, fun x hx => by have := h.2 x hx; omega⟩
noncomputable def cpuB (x y : Cpu) : Bool := strEq x.1 y.1 && (eqB x.2.2.1 y.2.2.1 && (eqB x.2.2.2.1 y.2.2.2.1 && (eqB x.2.2.2.2 y.2.2.2.2 && eqB x.2.1 y.2.1)))
noncomputable def tsameS : PSpec := ⟨[gCpu, gCpu], fun (x, y, _) => (some (tsP x), .cell (bv (cpuB x y)), [])⟩
theorem tsame_ok : GoodF Try.prog 15 tsameS.spec := by
  have hT := tab_ok (fs := [(59, sameCycS.spec), (16, eqiWS.spec)]) tree_ok
  have hP : SpecsOk Try.prog (tab tree [(59, sameCycS.spec), (16, eqiWS.spec)]) := specs_cons sameCyc_ok (specs_cons eqInsL_ok specs_nil)
  refine tsameS.good (fn := Try.f15) hT hP Try.func15 (by kernel_rfl) rfl fun (x y : Cpu) hq => ?_
  obtain ⟨xn, xi, xr, xq, xm⟩ := x
  obtain ⟨yn, yi, yr, yq, ym⟩ := y
  obtain ⟨⟨h1, h2⟩, h3, h4, h5⟩ : tsP (xn, xi, xr, xq, xm) := hq _ rfl
  have h1 : xi.length * 56 ≤ 140737488351232 := h1
  clear hq
  repeat' first
    | (refine Go.mk ?_; conv => whnf)
    | refine Need.go ?_ ?_
    | refine NilG.go (fun _ => ?_) (fun _ => ?_)
    | refine Br.dec (fun _ => ?_) (fun _ => ?_)
    | refine Br.go (fun _ => ?_) (fun _ => ?_)
    | refine draw_go hT hP mixed ?_
    | refine round_go hT hP ?_
  · exact okL_of h3
  · exact okL_of h4
  · exact okL_of h5
  · exact ⟨.inl rfl, by show xi.length ≤ _; omega, fun x hx => okL_of (h2 x hx)⟩
  all_goals (refine .mk [] [] _ rfl rfl rfl rfl rfl rfl (imm_bool ?_))
  all_goals clear hT hP
  all_goals (show _ = (strEq xn yn && (eqB xr yr && (eqB xq yq && (eqB xm ym && eqB xi yi)))))
  all_goals (try simp only [castL_eq] at *)
  all_goals (simp_all)

def cloneIS : PSpec := ⟨[⟨false, .sl InsT⟩], fun (l, _) => (some (List.length l * 56 ≤ 140737488351232), .cell (.own 0), [.arr InsT l])⟩
theorem cloneI_ok : GoodF Try.prog 14 cloneIS.spec := by
  have hT := tab_ok (fs := []) tree_ok
  have hP : SpecsOk Try.prog (tab tree []) := specs_nil
  refine cloneIS.good (fn := Try.f14) hT hP Try.func14 (by kernel_rfl) rfl fun (l : List Ins) hq => ?_
  have hl : l.length * 56 ≤ 140737488351232 := hq _ rfl
  clear hq
  repeat' first
    | (refine Go.mk ?_; conv => whnf)
    | refine Need.go ?_ ?_
    | refine NilG.go (fun _ => ?_) (fun _ => ?_)
    | refine Br.dec (fun _ => ?_) (fun _ => ?_)
    | refine Br.go (fun _ => ?_) (fun _ => ?_)
    | refine draw_go hT hP mixed ?_
    | refine round_go hT hP ?_
  · rename_i h
    obtain rfl : l = [] := List.eq_nil_of_length_eq_zero h
    exact .le (Le.nil 2 InsT rfl) (.mk [] [0] _ rfl rfl rfl rfl rfl rfl rfl)
  · show (0 + l.length) * 56 ≤ 140737488355328
    omega
  · exact .mk [] [1] _ rfl rfl rfl rfl rfl rfl rfl
def allI (c : Cpu) : List Ins := c.2.1 ++ [(0, c.1, 0, c.2.2.1), (0, ByteArray.empty, 0, c.2.2.2.1), (0, ByteArray.empty, 0, c.2.2.2.2)]
def tallS : PSpec := ⟨[gCpu], fun (c, _) => (some (c.2.1.length * 56 ≤ 140737488351232), .cell (.own 0), [.arr InsT (allI c)])⟩
theorem allI_ok : GoodF Try.prog 13 tallS.spec := by
  have hT := tab_ok (fs := [(14, cloneIS.spec)]) tree_ok
  have hP : SpecsOk Try.prog (tab tree [(14, cloneIS.spec)]) := specs_cons cloneI_ok specs_nil
  refine tallS.good (fn := Try.f13) hT hP Try.func13 (by kernel_rfl) rfl fun (c : Cpu) hq => ?_
  obtain ⟨cn, ci, cr, cq, cm⟩ := c
  have hl : ci.length * 56 ≤ 140737488351232 := hq _ rfl
  clear hq
  repeat' first
    | (refine Go.mk ?_; conv => whnf)
    | refine Need.go ?_ ?_
    | refine NilG.go (fun _ => ?_) (fun _ => ?_)
    | refine Br.dec (fun _ => ?_) (fun _ => ?_)
    | refine Br.go (fun _ => ?_) (fun _ => ?_)
    | refine draw_go hT hP mixed ?_
    | refine round_go hT hP ?_
  all_goals first
    | exact hl
    | exact of_decide_eq_true rfl
    | (show (ci.length + 3) * 56 ≤ 140737488355328
       omega)
    | skip
  exact .mk [] [3] _ rfl rfl rfl rfl rfl rfl rfl

theorem eqi_pre {c : Cpu} (h : tsP c) : eqiP 17 (allI c) := by
  obtain ⟨cn, ci, cr, cq, cm⟩ := c
  obtain ⟨⟨h1, h2⟩, h3, h4, h5⟩ := h
  have h1 : ci.length * 56 ≤ 140737488351232 := h1
  refine ⟨.inr rfl, ?_, fun x hx => ?_⟩
  · show (ci ++ _).length ≤ _
    rw [List.length_append]
    show ci.length + 3 ≤ _
    omega
  · rcases List.mem_append.1 hx with hx | hx
    · exact okL_of (h2 x hx)
    · simp only [List.mem_cons, List.not_mem_nil, or_false] at hx
      rcases hx with rfl | rfl | rfl
      · exact okL_of h3
      · exact okL_of h4
      · exact okL_of h5
theorem cpuB_iff {x y : Cpu} : cpuB x y = true ↔ allI x = allI y := by
  obtain ⟨xn, xi, xr, xq, xm⟩ := x
  obtain ⟨yn, yi, yr, yq, ym⟩ := y
  have hs : strEq xn yn = true ↔ xn = yn := Lib.bytes_beq_iff xn yn
  unfold cpuB allI
  simp only [Bool.and_eq_true, hs, eqB_iff]
  constructor
  · rintro ⟨rfl, rfl, rfl, rfl, rfl⟩; rfl
  · intro h
    obtain ⟨h1, h2⟩ := List.append_inj' h rfl
    simp only [List.cons.injEq, Prod.mk.injEq, and_true, true_and] at h2
    simp_all
theorem cpuB_all (x y : Cpu) : (cpuB x y == eqB (allI x) (allI y)) = true := by
  by_cases h : allI x = allI y
  · rw [cpuB_iff.2 h, eqB_t h]; rfl
  · rw [eqB_f h]
    have : cpuB x y = false := by
      rw [← Bool.not_eq_true]; exact fun e => h (cpuB_iff.1 e)
    rw [this]; rfl
noncomputable def tsS : PSpec := ⟨[gCpu, gCpu], fun (x, y, _) => (some (tsP x ∧ tsP y), .cell (bv true), [])⟩
theorem ts_ok : GoodF Try.prog 3 tsS.spec := by
  have hT := tab_ok (fs := [(12, tablesS.spec), (13, tallS.spec), (15, tsameS.spec), (16, eqiWS.spec)]) tree_ok
  have hP : SpecsOk Try.prog (tab tree [(12, tablesS.spec), (13, tallS.spec), (15, tsameS.spec), (16, eqiWS.spec)]) := specs_cons tables_ok (specs_cons allI_ok (specs_cons tsame_ok (specs_cons eqInsL_ok specs_nil)))
  refine tsS.good (fn := Try.f3) hT hP Try.func3 (by kernel_rfl) rfl fun (x y : Cpu) hq => ?_
  obtain ⟨xn, xi, xr, xq, xm⟩ := x
  obtain ⟨yn, yi, yr, yq, ym⟩ := y
  obtain ⟨hx, hy⟩ : tsP (xn, xi, xr, xq, xm) ∧ tsP (yn, yi, yr, yq, ym) := hq _ rfl
  clear hq
  repeat' first
    | (refine Go.mk ?_; conv => whnf)
    | refine Need.go ?_ ?_
    | refine NilG.go (fun _ => ?_) (fun _ => ?_)
    | refine Br.dec (fun _ => ?_) (fun _ => ?_)
    | refine Br.go (fun _ => ?_) (fun _ => ?_)
    | refine draw_go hT hP mixed ?_
    | refine round_go hT hP ?_
  · exact hx
  · exact hx.1.1
  · exact hy.1.1
  · exact eqi_pre hx
  · exact .mk [] [] _ rfl rfl rfl rfl rfl rfl (imm_bool (cpuB_all (xn, xi, xr, xq, xm) (yn, yi, yr, yq, ym)))

end Go.Proofs.Ytblnigjmcjpopaa

/- bakelaw1.SoundTicks answers true, whatever it is given. -/
namespace Go.Proofs.Ytblnigjmcjpopaa
open Go.Fw
set_option linter.unusedVariables false
set_option linter.unusedSimpArgs false
set_option maxRecDepth 100000

theorem sndN_form (N : List Int) : sndN (sndN N) = sndN N := snd_idem (vo_ok N 0) (vo_ok N 6)
theorem iterW_form (N : List Int) (n : Nat) : sndN (iterF tickW n (sndN N)) = iterF tickW n (sndN N) := by
  have e : iterF tickW n (sndN N) = iterF (passV 1) n (vo N 0) ++ iterF (passV 1) n (vo N 6) := iterW (vo_ok N 0) (vo_ok N 6) n
  rw [e]
  exact snd_idem (iterP_ok (vo_ok N 0) n) (iterP_ok (vo_ok N 6) n)
theorem len12 {l : List Int} (h : sndN l = l) : l.length ≤ 4611686018427387904 := by
  rw [← h]; exact (by decide : 12 ≤ 4611686018427387904)
def otS : PSpec := ⟨[gD, gi], fun (d, k, _) => (none, .cell (bv true), [])⟩
end Go.Proofs.Ytblnigjmcjpopaa

/- bakelaw1.CoreAsks answers true, whatever it is given. -/
namespace Go.Proofs.Ytblnigjmcjpopaa
open Go.Fw
set_option linter.unusedVariables false
set_option linter.unusedSimpArgs false
set_option maxRecDepth 100000

-- the law

theorem denEq_self : ∀ {u : Ty} {x : Den u}, u.flat = true → denEq u x x = true
  | .int _, x, _ => by simp [denEq]
  | .ints _ _, x, _ => by simp [denEq]
  | .bool, x, _ => by simp [denEq]
  | .str, x, _ => by simp [denEq, strEq]
  | .sl _, _, h => by cases h
  | .pair a b, x, h => by
    simp only [Ty.flat, Bool.and_eq_true] at h
    simp only [denEq, denEq_self h.1, denEq_self h.2, Bool.and_self]
def kNewS : PSpec := ⟨[], fun _ => (none, .agg [.run .i64 9 [0, 0, 0, 0, 4, 0, 0, 0, 0], iv .i64 258, iv .i64 0, bv false], [])⟩
theorem kNew_ok : GoodF Try.prog 69 kNewS.spec := by
  have hT := tab_ok (fs := []) tree_ok
  have hP : SpecsOk Try.prog (tab tree []) := specs_nil
  refine kNewS.good (fn := Try.f69) hT hP Try.func69 (by kernel_rfl) rfl fun _ => ?_
  repeat' first
    | (refine Go.mk ?_; conv => whnf)
    | refine Need.go ?_ ?_
    | refine NilG.go (fun _ => ?_) (fun _ => ?_)
    | refine Br.dec (fun _ => ?_) (fun _ => ?_)
    | refine Br.go (fun _ => ?_) (fun _ => ?_)
    | refine draw_go hT hP mixed ?_
    | refine round_go hT hP ?_
  all_goals first
    | exact of_decide_eq_true rfl
    | exact .mk [] [] _ rfl rfl rfl rfl rfl rfl rfl
def kNmiS : PSpec := ⟨[gK], fun (k, _) => (none, .agg [.run .i64 9 k.1, iv .i64 k.2.1, iv .i64 k.2.2.1, bv true], [])⟩
def coresS : PSpec := ⟨[], fun _ => (none, .cell (bv true), [])⟩
theorem cores_ok : GoodF Try.prog 25 coresS.spec := by
  have hT := tab_ok (fs := [(69, kNewS.spec)]) tree_ok
  have hP : SpecsOk Try.prog (tab tree [(69, kNewS.spec)]) := specs_cons kNew_ok specs_nil
  refine coresS.good (fn := Try.f25) hT hP Try.func25 (by kernel_rfl) rfl fun _ => ?_
  repeat' first
    | (refine Go.mk ?_; conv => whnf)
    | refine Need.go ?_ ?_
    | refine NilG.go (fun _ => ?_) (fun _ => ?_)
    | refine Br.dec (fun _ => ?_) (fun _ => ?_)
    | refine Br.go (fun _ => ?_) (fun _ => ?_)
    | refine draw_go hT hP mixed ?_
    | refine round_go hT hP ?_
  all_goals first
    | exact of_decide_eq_true rfl
    | exact .mk [] [] _ rfl rfl rfl rfl rfl rfl rfl
def caS : PSpec := ⟨[gCpu, gK, gB], fun (c, k, i, _) => (some (askP c k), .cell (bv true), [])⟩
end Go.Proofs.Ytblnigjmcjpopaa

/- bakelaw1.CoreTells answers true, whatever it is given; the walk of the document. -/
namespace Go.Proofs.Ytblnigjmcjpopaa
open Go.Fw
set_option linter.unusedVariables false
set_option linter.unusedSimpArgs false
set_option linter.constructorNameAsVariable false
set_option maxRecDepth 100000

def idleRd : List V1 → List Blk → Option Kor := fun a b => match a, b with
  | [.c (.ptr 0 0)], [.var [.run .i64 9 r, .imm (.int .i64 op), .imm (.int .i64 at_), .imm (.bool nmi)]] => some (r, op, at_, nmi)
  | _, _ => none
theorem idleRd_ok {a : List V1} {b : List Blk} {x : Kor} (h : idleRd a b = some x) : a = [.c (.ptr 0 0)] ∧ b = [.var [.run .i64 9 x.1, iv .i64 x.2.1, iv .i64 x.2.2.1, bv x.2.2.2]] := by
  unfold idleRd at h
  split at h
  · injection h with h; subst h; exact ⟨rfl, rfl⟩
  · cases h
def idleWS : WSpec := ⟨Kor, fun _ => [.c (.ptr 0 0)], fun x => [.var [.run .i64 9 x.1, iv .i64 x.2.1, iv .i64 x.2.2.1, bv x.2.2.2]], idleRd,
  fun (r, op, at_, nmi) => (none, .agg [.run .i64 9 r, iv .i64 (-1), iv .i64 0, bv nmi], [some (.var [.run .i64 9 r, iv .i64 (-1), iv .i64 0, bv nmi])], [])⟩
theorem idle_ok : GoodF Try.prog 78 idleWS.spec := by
  have hT := tab_ok (fs := []) tree_ok
  have hP : SpecsOk Try.prog (tab tree []) := specs_nil
  refine idleWS.good (fn := Try.f78) hT hP Try.func78 (by kernel_rfl) rfl (fun _ _ _ h => idleRd_ok h) fun ((r, op, at_, nmi) : Kor) hq => ?_
  repeat' first
    | (refine Go.mk ?_; conv => whnf)
    | refine Need.go ?_ ?_
    | refine NilG.go (fun _ => ?_) (fun _ => ?_)
    | refine Br.dec (fun _ => ?_) (fun _ => ?_)
    | refine Br.go (fun _ => ?_) (fun _ => ?_)
    | refine draw_go hT hP mixed ?_
    | refine round_go hT hP ?_
  all_goals exact .mk [] [0] _ rfl rfl rfl rfl rfl rfl rfl
theorem hasI_eq {c : Cpu} {op : Int} : hasI c op = decide (¬ idxI c.2.1 op < 0) := by
  unfold hasI
  by_cases h : 0 ≤ idxI c.2.1 op
  · rw [decide_eq_true h, decide_eq_true (by omega)]
  · rw [decide_eq_false h, decide_eq_false (by omega)]
theorem canB_t {c : Cpu} {op at_ : Int} (h : ¬ op = -1) (h0 : 0 ≤ at_) (h1 : at_ < (cycF c op).length) : canB c op at_ = true := by
  unfold canB; rw [decide_eq_false h, decide_eq_true h0, decide_eq_true h1]; rfl
theorem canB_f {c : Cpu} {op at_ : Int} (h : ¬ (0 ≤ at_ ∧ at_ < (cycF c op).length)) : canB c op at_ = false := by
  unfold canB
  by_cases h0 : 0 ≤ at_
  · rw [decide_eq_true h0, decide_eq_false (fun h1 => h ⟨h0, h1⟩)]; simp
  · rw [decide_eq_false h0]; simp
set_option maxHeartbeats 8000000 in
theorem answered_ok : GoodF Try.prog 27 tellS.spec := by
  have hT := tab_ok (fs := [(77, fitS.spec), (76, modS.spec), (78, idleWS.spec), (79, opWS.spec), (65, idxWS.spec), (81, narrowS.spec), (82, wideS.spec), (83, doS.spec), (80, cycS.spec)]) tree_ok
  have hP : SpecsOk Try.prog (tab tree [(77, fitS.spec), (76, modS.spec), (78, idleWS.spec), (79, opWS.spec), (65, idxWS.spec), (81, narrowS.spec), (82, wideS.spec), (83, doS.spec), (80, cycS.spec)]) := specs_cons rFit_ok (specs_cons mod_ok (specs_cons idle_ok (specs_cons ansOp_ok (specs_cons idx_ok (specs_cons rNarrow_ok (specs_cons rWide_ok (specs_cons stepped_ok (specs_cons cycOf_ok specs_nil))))))))
  refine tellS.good (fn := Try.f27) hT hP Try.func27 (by kernel_rfl) rfl fun (c : Cpu) (k : Kor) (data : Int) hq => ?_
  obtain ⟨cn, ci, cr, cq, cm⟩ := c
  obtain ⟨r, op, at_, nmi⟩ := k
  obtain ⟨h1, h2, h3⟩ : tellP (cn, ci, cr, cq, cm) (r, op, at_, nmi) := hq _ rfl
  clear hq
  have hC := okCyc_F h1 h2 op
  have hS := doF_len (at_ := at_) hC
  have h1' : ci.length * 56 ≤ 140737488351232 := h1.1
  repeat' first
    | (refine Go.mk ?_; conv => whnf)
    | refine Need.go ?_ ?_
    | refine NilG.go (fun _ => ?_) (fun _ => ?_)
    | refine Br.dec (fun _ => ?_) (fun _ => ?_)
    | refine Br.go (fun _ => ?_) (fun _ => ?_)
    | refine draw_go hT hP mixed ?_
    | refine round_go hT hP ?_
  all_goals first
    | exact of_decide_eq_true rfl
    | exact h3
    | exact h1
    | skip
  all_goals (try simp only [castL_eq] at *)
  all_goals (try dsimp only at *)
  all_goals first
    | exact ⟨.inr trivial, by show ci.length ≤ _; omega⟩
    | exact ⟨.inr rfl, by show ci.length ≤ _; omega⟩
    | (show ci.length ≤ 4611686018427387904
       omega)
    | (have hi := idxI_in ci (data % 256)
       show 0 ≤ idxI ci (data % 256) ∧ idxI ci (data % 256) < (ci.length : Int)
       omega)
    | (show 0 ≤ at_ ∧ at_ < ((cycF (cn, ci, cr, cq, cm) op).length : Int)
       omega)
    | (rename_i hreg
       have hreg : 0 ≤ ((cycF (cn, ci, cr, cq, cm) op).getD at_.toNat cycD).2.2.1 ∧ ((cycF (cn, ci, cr, cq, cm) op).getD at_.toNat cycD).2.2.1 ≤ 6 := hreg
       have h9 : ((cycF (cn, ci, cr, cq, cm) op).getD at_.toNat cycD).2.2.1.toNat < 9 := by omega
       exact h9)
    | (rename_i hreg
       have hreg : ((cycF (cn, ci, cr, cq, cm) op).getD at_.toNat cycD).2.2.1 = 7 ∨ ((cycF (cn, ci, cr, cq, cm) op).getD at_.toNat cycD).2.2.1 = 8 := hreg
       have h9 : ((cycF (cn, ci, cr, cq, cm) op).getD at_.toNat cycD).2.2.1.toNat < 9 := by omega
       exact h9)
    | (rename_i hreg
       clear hT hP
       have hreg : 0 ≤ ((cycF (cn, ci, cr, cq, cm) op).getD at_.toNat cycD).2.2.1 ∧ ((cycF (cn, ci, cr, cq, cm) op).getD at_.toNat cycD).2.2.1 ≤ 6 := hreg
       exact (⟨hreg.1, by omega⟩ : 0 ≤ ((cycF (cn, ci, cr, cq, cm) op).getD at_.toNat cycD).2.2.1 ∧ ((cycF (cn, ci, cr, cq, cm) op).getD at_.toNat cycD).2.2.1 < (9 : Int)))
    | (rename_i hreg
       clear hT hP
       have hreg : ((cycF (cn, ci, cr, cq, cm) op).getD at_.toNat cycD).2.2.1 = 7 ∨ ((cycF (cn, ci, cr, cq, cm) op).getD at_.toNat cycD).2.2.1 = 8 := hreg
       exact (⟨by omega, by omega⟩ : 0 ≤ ((cycF (cn, ci, cr, cq, cm) op).getD at_.toNat cycD).2.2.1 ∧ ((cycF (cn, ci, cr, cq, cm) op).getD at_.toNat cycD).2.2.1 < (9 : Int)))
    | (show ((cycF (cn, ci, cr, cq, cm) op).getD at_.toNat cycD).2.2.1.toNat < 9
       try simp only [narrowB, wideB, decide_eq_true_eq] at *
       omega)
    | (rename_i hop hlt
       have hh : hasI (cn, ci, cr, cq, cm) (data % 256) = false := decide_eq_false (by show ¬ 0 ≤ idxI ci (data % 256); omega)
       refine .mk [] [] _ rfl rfl rfl rfl rfl rfl (aggK ?_)
       rw [tellF_idle hop, if_neg (by rw [hh]; decide)])
    | (rename_i hop hge hlen
       have hlen : ((ci.getD (idxI ci (data % 256)).toNat (dflt InsT)).2.2.2.length : Int) > 0 := hlen
       have hh : hasI (cn, ci, cr, cq, cm) (data % 256) = true := decide_eq_true (by show 0 ≤ idxI ci (data % 256); omega)
       have hf : findI (cn, ci, cr, cq, cm) (data % 256) = ci.getD (idxI ci (data % 256)).toNat (dflt InsT) := if_pos hh
       refine .mk [] [] _ rfl rfl rfl rfl rfl rfl (aggK ?_)
       rw [tellF_idle hop, if_pos hh, hf, if_pos (by omega)])
    | (rename_i hop hge hlen
       have hlen : ¬ ((ci.getD (idxI ci (data % 256)).toNat (dflt InsT)).2.2.2.length : Int) > 0 := hlen
       have hh : hasI (cn, ci, cr, cq, cm) (data % 256) = true := decide_eq_true (by show 0 ≤ idxI ci (data % 256); omega)
       have hf : findI (cn, ci, cr, cq, cm) (data % 256) = ci.getD (idxI ci (data % 256)).toNat (dflt InsT) := if_pos hh
       refine .mk [] [] _ rfl rfl rfl rfl rfl rfl (aggK ?_)
       rw [tellF_idle hop, if_pos hh, hf, if_neg (by omega), hop])
    | (have hb : canB (cn, ci, cr, cq, cm) op at_ = false := canB_f (by omega)
       refine .mk [] [] _ rfl rfl rfl rfl rfl rfl (aggK ?_)
       rw [tellF_ended (by assumption) hb]
       simp_all
       done)
    | skip
  all_goals
    have hb : canB (cn, ci, cr, cq, cm) op at_ = true := canB_t (by assumption) (by omega) (by omega)
    have hCl : (cycF (cn, ci, cr, cq, cm) op).length * 48 ≤ 140737488351232 := hC.1
    have ewa : IntKind.i64.wrap (at_ + 1) = at_ + 1 := w64 (by omega) (by omega)
    have hx : doF (cn, ci, cr, cq, cm) op at_ = ((cycF (cn, ci, cr, cq, cm) op).getD at_.toNat cycD) := if_pos hb
    rw [hx] at hS
  all_goals first
    | (have hbus : ((cycF (cn, ci, cr, cq, cm) op).getD at_.toNat cycD).1 = 1 := by assumption
       have hreg : 0 ≤ ((cycF (cn, ci, cr, cq, cm) op).getD at_.toNat cycD).2.2.1 ∧ ((cycF (cn, ci, cr, cq, cm) op).getD at_.toNat cycD).2.2.1 ≤ 6 := by assumption
       have hR : tellR ((cycF (cn, ci, cr, cq, cm) op).getD at_.toNat cycD) (fitR r) (data % 256) = ((fitR r).set ((cycF (cn, ci, cr, cq, cm) op).getD at_.toNat cycD).2.2.1.toNat (data % 256)) := if_pos ⟨hbus, by omega, by omega⟩
       refine up_go hT hP ((cycF (cn, ci, cr, cq, cm) op).getD at_.toNat cycD).2.2.2.length (fun i (z : List Int) => St.mk [.dead, .dead, .dead, .dead, .cell (.ptr 0 0), .dead, .cell (.ptr 1 0), .cell (.fn 78 [0]), .dead, .cell (.ro CycT (cycF (cn, ci, cr, cq, cm) op)), .dead, .dead, .dead, .dead, .dead, .dead, .dead, .dead, .dead, .dead, .dead, .dead, .dead, .dead, .dead, .dead, .dead, .dead, .dead, .dead, .dead, .dead, .dead, .dead, .dead, .dead, .dead, .dead, .dead, .dead, .dead, .dead, .dead, .dead, .dead, .dead, .dead, .dead, .dead, .dead, .dead, .dead, .dead, .dead, .dead, .dead, .dead, .dead, .dead, .dead, .dead, .dead, .dead, .dead, .dead, .dead, .dead, .dead, .dead, .dead, .dead, .dead, .dead, .dead, .dead, .dead, .dead, .dead, .dead, .dead, .dead, .dead, .dead, .dead, .dead, .dead, .dead, .dead, .dead, .dead, .dead, .dead, .dead, .cell (.ro StepT ((cycF (cn, ci, cr, cq, cm) op).getD at_.toNat cycD).2.2.2), I (((cycF (cn, ci, cr, cq, cm) op).getD at_.toNat cycD).2.2.2.length : Int), I i, .dead, .dead, .dead, .dead, .dead, .dead, .dead, .dead, .dead, .dead, .dead, .dead, .dead, .dead, .dead, .dead, .dead, .dead, .dead, .dead, .dead, .dead, .dead] [some (.var [.run .i64 9 z, iv .i64 op, iv .i64 (IntKind.i64.wrap (at_ + 1)), bv nmi]), some (.var [.run .i64 9 [0, 0, 0, 0, 0, 0, 0, 0, 0], iv .i64 0, iv .i64 0, bv false])]) (fun j z => runS (((cycF (cn, ci, cr, cq, cm) op).getD at_.toNat cycD).2.2.2.drop j) z = runS ((cycF (cn, ci, cr, cq, cm) op).getD at_.toNat cycD).2.2.2 (tellR ((cycF (cn, ci, cr, cq, cm) op).getD at_.toNat cycD) (fitR r) (data % 256)) ∧ z.length = 9) ((fitR r).set ((cycF (cn, ci, cr, cq, cm) op).getD at_.toNat cycD).2.2.1.toNat (data % 256)) (Le.mk [] [1, 3] rfl rfl (by exact rfl) (by repeat' first | exact trivial | exact ⟨rfl, rfl⟩ | refine And.intro ?_ ?_)) ⟨by rw [hR]; rfl, by rw [List.length_set]; rfl⟩ fun j z hj hi => ?_)
    | (have hbus : ((cycF (cn, ci, cr, cq, cm) op).getD at_.toNat cycD).1 = 1 := by assumption
       have hreg : ((cycF (cn, ci, cr, cq, cm) op).getD at_.toNat cycD).2.2.1 = 7 ∨ ((cycF (cn, ci, cr, cq, cm) op).getD at_.toNat cycD).2.2.1 = 8 := by assumption
       have hR : tellR ((cycF (cn, ci, cr, cq, cm) op).getD at_.toNat cycD) (fitR r) (data % 256) = ((fitR r).set ((cycF (cn, ci, cr, cq, cm) op).getD at_.toNat cycD).2.2.1.toNat (data % 256)) := if_pos ⟨hbus, by omega, by omega⟩
       refine up_go hT hP ((cycF (cn, ci, cr, cq, cm) op).getD at_.toNat cycD).2.2.2.length (fun i (z : List Int) => St.mk [.dead, .dead, .dead, .dead, .cell (.ptr 0 0), .dead, .cell (.ptr 1 0), .cell (.fn 78 [0]), .dead, .cell (.ro CycT (cycF (cn, ci, cr, cq, cm) op)), .dead, .dead, .dead, .dead, .dead, .dead, .dead, .dead, .dead, .dead, .dead, .dead, .dead, .dead, .dead, .dead, .dead, .dead, .dead, .dead, .dead, .dead, .dead, .dead, .dead, .dead, .dead, .dead, .dead, .dead, .dead, .dead, .dead, .dead, .dead, .dead, .dead, .dead, .dead, .dead, .dead, .dead, .dead, .dead, .dead, .dead, .dead, .dead, .dead, .dead, .dead, .dead, .dead, .dead, .dead, .dead, .dead, .dead, .dead, .dead, .dead, .dead, .dead, .dead, .dead, .dead, .dead, .dead, .dead, .dead, .dead, .dead, .dead, .dead, .dead, .dead, .dead, .dead, .dead, .dead, .dead, .dead, .dead, .cell (.ro StepT ((cycF (cn, ci, cr, cq, cm) op).getD at_.toNat cycD).2.2.2), I (((cycF (cn, ci, cr, cq, cm) op).getD at_.toNat cycD).2.2.2.length : Int), I i, .dead, .dead, .dead, .dead, .dead, .dead, .dead, .dead, .dead, .dead, .dead, .dead, .dead, .dead, .dead, .dead, .dead, .dead, .dead, .dead, .dead, .dead, .dead] [some (.var [.run .i64 9 z, iv .i64 op, iv .i64 (IntKind.i64.wrap (at_ + 1)), bv nmi]), some (.var [.run .i64 9 [0, 0, 0, 0, 0, 0, 0, 0, 0], iv .i64 0, iv .i64 0, bv false])]) (fun j z => runS (((cycF (cn, ci, cr, cq, cm) op).getD at_.toNat cycD).2.2.2.drop j) z = runS ((cycF (cn, ci, cr, cq, cm) op).getD at_.toNat cycD).2.2.2 (tellR ((cycF (cn, ci, cr, cq, cm) op).getD at_.toNat cycD) (fitR r) (data % 256)) ∧ z.length = 9) ((fitR r).set ((cycF (cn, ci, cr, cq, cm) op).getD at_.toNat cycD).2.2.1.toNat (data % 256)) (Le.mk [] [1, 3] rfl rfl (by exact rfl) (by repeat' first | exact trivial | exact ⟨rfl, rfl⟩ | refine And.intro ?_ ?_)) ⟨by rw [hR]; rfl, by rw [List.length_set]; rfl⟩ fun j z hj hi => ?_)
    | (have hreg : ¬ (0 ≤ ((cycF (cn, ci, cr, cq, cm) op).getD at_.toNat cycD).2.2.1 ∧ ((cycF (cn, ci, cr, cq, cm) op).getD at_.toNat cycD).2.2.1 ≤ 6) := by assumption
       have hreg2 : ¬ (((cycF (cn, ci, cr, cq, cm) op).getD at_.toNat cycD).2.2.1 = 7 ∨ ((cycF (cn, ci, cr, cq, cm) op).getD at_.toNat cycD).2.2.1 = 8) := by assumption
       have hR : tellR ((cycF (cn, ci, cr, cq, cm) op).getD at_.toNat cycD) (fitR r) (data % 256) = fitR r := if_neg (fun h => by obtain ⟨a, b, c⟩ := h; omega)
       refine up_go hT hP ((cycF (cn, ci, cr, cq, cm) op).getD at_.toNat cycD).2.2.2.length (fun i (z : List Int) => St.mk [.dead, .dead, .dead, .dead, .cell (.ptr 0 0), .dead, .cell (.ptr 1 0), .cell (.fn 78 [0]), .dead, .cell (.ro CycT (cycF (cn, ci, cr, cq, cm) op)), .dead, .dead, .dead, .dead, .dead, .dead, .dead, .dead, .dead, .dead, .dead, .dead, .dead, .dead, .dead, .dead, .dead, .dead, .dead, .dead, .dead, .dead, .dead, .dead, .dead, .dead, .dead, .dead, .dead, .dead, .dead, .dead, .dead, .dead, .dead, .dead, .dead, .dead, .dead, .dead, .dead, .dead, .dead, .dead, .dead, .dead, .dead, .dead, .dead, .dead, .dead, .dead, .dead, .dead, .dead, .dead, .dead, .dead, .dead, .dead, .dead, .dead, .dead, .dead, .dead, .dead, .dead, .dead, .dead, .dead, .dead, .dead, .dead, .dead, .dead, .dead, .dead, .dead, .dead, .dead, .dead, .dead, .dead, .cell (.ro StepT ((cycF (cn, ci, cr, cq, cm) op).getD at_.toNat cycD).2.2.2), I (((cycF (cn, ci, cr, cq, cm) op).getD at_.toNat cycD).2.2.2.length : Int), I i, .dead, .dead, .dead, .dead, .dead, .dead, .dead, .dead, .dead, .dead, .dead, .dead, .dead, .dead, .dead, .dead, .dead, .dead, .dead, .dead, .dead, .dead, .dead] [some (.var [.run .i64 9 z, iv .i64 op, iv .i64 (IntKind.i64.wrap (at_ + 1)), bv nmi]), some (.var [.run .i64 9 [0, 0, 0, 0, 0, 0, 0, 0, 0], iv .i64 0, iv .i64 0, bv false])]) (fun j z => runS (((cycF (cn, ci, cr, cq, cm) op).getD at_.toNat cycD).2.2.2.drop j) z = runS ((cycF (cn, ci, cr, cq, cm) op).getD at_.toNat cycD).2.2.2 (tellR ((cycF (cn, ci, cr, cq, cm) op).getD at_.toNat cycD) (fitR r) (data % 256)) ∧ z.length = 9) (fitR r) (Le.mk [] [1, 3] rfl rfl (by exact rfl) (by repeat' first | exact trivial | exact ⟨rfl, rfl⟩ | refine And.intro ?_ ?_)) ⟨by rw [hR]; rfl, rfl⟩ fun j z hj hi => ?_)
    | (have hbus : ¬ ((cycF (cn, ci, cr, cq, cm) op).getD at_.toNat cycD).1 = 1 := by assumption
       have hR : tellR ((cycF (cn, ci, cr, cq, cm) op).getD at_.toNat cycD) (fitR r) (data % 256) = fitR r := if_neg (fun h => hbus h.1)
       refine up_go hT hP ((cycF (cn, ci, cr, cq, cm) op).getD at_.toNat cycD).2.2.2.length (fun i (z : List Int) => St.mk [.dead, .dead, .dead, .dead, .cell (.ptr 0 0), .dead, .cell (.ptr 1 0), .cell (.fn 78 [0]), .dead, .cell (.ro CycT (cycF (cn, ci, cr, cq, cm) op)), .dead, .dead, .dead, .dead, .dead, .dead, .dead, .dead, .dead, .dead, .dead, .dead, .dead, .dead, .dead, .dead, .dead, .dead, .dead, .dead, .dead, .dead, .dead, .dead, .dead, .dead, .dead, .dead, .dead, .dead, .dead, .dead, .dead, .dead, .dead, .dead, .dead, .dead, .dead, .dead, .dead, .dead, .dead, .dead, .dead, .dead, .dead, .dead, .dead, .dead, .dead, .dead, .dead, .dead, .dead, .dead, .dead, .dead, .dead, .dead, .dead, .dead, .dead, .dead, .dead, .dead, .dead, .dead, .dead, .dead, .dead, .dead, .dead, .dead, .dead, .dead, .dead, .dead, .dead, .dead, .dead, .dead, .dead, .cell (.ro StepT ((cycF (cn, ci, cr, cq, cm) op).getD at_.toNat cycD).2.2.2), I (((cycF (cn, ci, cr, cq, cm) op).getD at_.toNat cycD).2.2.2.length : Int), I i, .dead, .dead, .dead, .dead, .dead, .dead, .dead, .dead, .dead, .dead, .dead, .dead, .dead, .dead, .dead, .dead, .dead, .dead, .dead, .dead, .dead, .dead, .dead] [some (.var [.run .i64 9 z, iv .i64 op, iv .i64 (IntKind.i64.wrap (at_ + 1)), bv nmi]), some (.var [.run .i64 9 [0, 0, 0, 0, 0, 0, 0, 0, 0], iv .i64 0, iv .i64 0, bv false])]) (fun j z => runS (((cycF (cn, ci, cr, cq, cm) op).getD at_.toNat cycD).2.2.2.drop j) z = runS ((cycF (cn, ci, cr, cq, cm) op).getD at_.toNat cycD).2.2.2 (tellR ((cycF (cn, ci, cr, cq, cm) op).getD at_.toNat cycD) (fitR r) (data % 256)) ∧ z.length = 9) (fitR r) (Le.mk [] [1, 3] rfl rfl (by exact rfl) (by repeat' first | exact trivial | exact ⟨rfl, rfl⟩ | refine And.intro ?_ ?_)) ⟨by rw [hR]; rfl, rfl⟩ fun j z hj hi => ?_)
    | skip
  all_goals
    obtain ⟨hi, hz⟩ := hi
    have hS' : ((cycF (cn, ci, cr, cq, cm) op).getD at_.toNat cycD).2.2.2.length * 32 ≤ 140737488351232 := hS
    repeat' first
      | (refine Go.mk ?_; conv => whnf)
      | refine Need.go ?_ ?_
      | refine NilG.go (fun _ => ?_) (fun _ => ?_)
      | refine Br.dec (fun _ => ?_) (fun _ => ?_)
      | refine Br.go (fun _ => ?_) (fun _ => ?_)
      | refine draw_go hT hP mixed ?_
      | refine round_go hT hP ?_
  all_goals (try simp only [castL_eq] at *)
  all_goals (try dsimp only at *)
  all_goals first
    | exact of_decide_eq_true rfl
    | exact hz
    | (show ci.length ≤ 4611686018427387904
       omega)
    | (show 0 ≤ (j : Int) ∧ (j : Int) < (((cycF (cn, ci, cr, cq, cm) op).getD at_.toNat cycD).2.2.2.length : Int)
       omega)
    | (show j < ((cycF (cn, ci, cr, cq, cm) op).getD at_.toNat cycD).2.2.2.length
       omega)
    | skip
  all_goals clear hT hP
  all_goals first
    | (rename_i g1 h
       have g1 : (j : Int) < (((cycF (cn, ci, cr, cq, cm) op).getD at_.toNat cycD).2.2.2.length : Int) := g1
       have he : doE (((cycF (cn, ci, cr, cq, cm) op).getD at_.toNat cycD).2.2.2.getD j (dflt StepT)) z = true := h
       have hrun : runS ((cycF (cn, ci, cr, cq, cm) op).getD at_.toNat cycD).2.2.2 (tellR ((cycF (cn, ci, cr, cq, cm) op).getD at_.toNat cycD) (fitR r) (data % 256)) = (doR (((cycF (cn, ci, cr, cq, cm) op).getD at_.toNat cycD).2.2.2.getD j (dflt StepT)) z, true) := by
         rw [← hi, stpDrop (by omega), runS, if_pos he]
       refine .mk [] [] _ rfl rfl rfl rfl rfl rfl (aggK ?_)
       rw [tellF_run (by assumption) hb hx hrun, if_pos (.inl rfl)]; rfl)
    | (rename_i g1 h
       have g1 : (j : Int) < (((cycF (cn, ci, cr, cq, cm) op).getD at_.toNat cycD).2.2.2.length : Int) := g1
       have he : ¬ doE (((cycF (cn, ci, cr, cq, cm) op).getD at_.toNat cycD).2.2.2.getD j (dflt StepT)) z = true := fun e => by
         have h : doE (((cycF (cn, ci, cr, cq, cm) op).getD at_.toNat cycD).2.2.2.getD j (dflt StepT)) z = false := h
         rw [h] at e; cases e
       apply Exists.intro
       apply Exists.intro (doR (((cycF (cn, ci, cr, cq, cm) op).getD at_.toNat cycD).2.2.2.getD j (dflt StepT)) z)
       refine And.intro (And.intro ?lt (And.intro ?ei ?inv)) (Le.mk [] [0, 1] rfl rfl ?hh ?ht)
       case hh => exact rfl
       case ht => repeat' first | exact trivial | exact ⟨rfl, rfl⟩ | refine And.intro ?_ ?_
       case lt => omega
       case ei => exact up_i (by omega)
       case inv =>
         rw [stpDrop (by omega), runS, if_neg he] at hi
         exact ⟨hi, doR_len _ _⟩)
    | (rename_i g1 h
       have g1 : ¬ (j : Int) < (((cycF (cn, ci, cr, cq, cm) op).getD at_.toNat cycD).2.2.2.length : Int) := g1
       have h : IntKind.i64.wrap (at_ + 1) = ((cycF (cn, ci, cr, cq, cm) op).length : Int) := h
       rw [ewa] at h
       have hrun : runS ((cycF (cn, ci, cr, cq, cm) op).getD at_.toNat cycD).2.2.2 (tellR ((cycF (cn, ci, cr, cq, cm) op).getD at_.toNat cycD) (fitR r) (data % 256)) = (z, false) := by
         rw [← hi, List.drop_of_length_le (by omega)]; rfl
       refine .mk [] [] _ rfl rfl rfl rfl rfl rfl (aggK ?_)
       rw [tellF_run (by assumption) hb hx hrun, if_pos (.inr (by omega))])
    | (rename_i g1 h
       have g1 : ¬ (j : Int) < (((cycF (cn, ci, cr, cq, cm) op).getD at_.toNat cycD).2.2.2.length : Int) := g1
       have h : ¬ IntKind.i64.wrap (at_ + 1) = ((cycF (cn, ci, cr, cq, cm) op).length : Int) := h
       rw [ewa] at h
       have hrun : runS ((cycF (cn, ci, cr, cq, cm) op).getD at_.toNat cycD).2.2.2 (tellR ((cycF (cn, ci, cr, cq, cm) op).getD at_.toNat cycD) (fitR r) (data % 256)) = (z, false) := by
         rw [← hi, List.drop_of_length_le (by omega)]; rfl
       refine .mk [] [] _ rfl rfl rfl rfl rfl rfl (aggK ?_)
       rw [tellF_run (by assumption) hb hx hrun, ewa, if_neg (fun e => e.elim (fun e => by cases e) (fun e => by omega))])
    | skip
  all_goals trace_state


def tlS : PSpec := ⟨[gCpu, gK, gi], fun (c, k, d, _) => (some (tellP c k), .cell (bv true), [])⟩
theorem tl_ok : GoodF Try.prog 5 tlS.spec := by
  have hT := tab_ok (fs := [(25, coresS.spec), (26, tellS.spec), (27, tellS.spec)]) tree_ok
  have hP : SpecsOk Try.prog (tab tree [(25, coresS.spec), (26, tellS.spec), (27, tellS.spec)]) := specs_cons cores_ok (specs_cons tell_ok (specs_cons answered_ok specs_nil))
  refine tlS.good (fn := Try.f5) hT hP Try.func5 (by kernel_rfl) rfl fun (c : Cpu) (k : Kor) (d : Int) hp => ?_
  obtain ⟨cn, ci, cr, cq, cm⟩ := c
  obtain ⟨r, op, at_, n⟩ := k
  have hz : tellP (cn, ci, cr, cq, cm) (r, op, at_, n) := hp _ rfl
  clear hp
  repeat' first
    | (refine Go.mk ?_; conv => whnf)
    | refine Need.go ?_ ?_
    | refine NilG.go (fun _ => ?_) (fun _ => ?_)
    | refine Br.dec (fun _ => ?_) (fun _ => ?_)
    | refine Br.go (fun _ => ?_) (fun _ => ?_)
    | refine draw_go hT hP mixed ?_
    | refine round_go hT hP ?_
  all_goals first
    | exact hz
    | exact of_decide_eq_true rfl
    | skip
  all_goals (try refine .mk [] [] _ rfl rfl rfl rfl rfl rfl (imm_bool ?_))
  all_goals clear hT hP
  all_goals (try simp only [castL_eq] at *)
  all_goals first
    | (rw [denEq_self rfl]; rfl)
    | (exfalso; rename_i h; rw [denEq_self rfl] at h; cases h; done)
    | (exfalso; rename_i h; exact h trivial)
    | skip

end Go.Proofs.Ytblnigjmcjpopaa

