/- A machine's state as bytes: the reference. -/
import Derived.Test.YthpijepbbpcjeaaPack
namespace Go.Proofs.Ythpijepbbpcjeaa
open Go.Fw
set_option linter.unusedVariables false
set_option linter.unusedSimpArgs false
set_option linter.constructorNameAsVariable false
set_option maxRecDepth 100000

abbrev DevT : Ty := .pair (.sl (.int .i64)) (.sl (.int .u8))
abbrev MachT : Ty := .pair (.int .i64) (.pair CoreT (.pair (.sl DevT) (.pair (.int .i64) (.pair (.int .i64) (.int .i64)))))
abbrev gM : Sig := ⟨true, MachT⟩
abbrev Mach := Int × Kor × List Dv × Int × Int × Int
def headL (m : Mach) : List Int := [m.1] ++ m.2.1.1 ++ [m.2.1.2.1, m.2.1.2.2.1, cond m.2.1.2.2.2 1 0, m.2.2.2.1, m.2.2.2.2.1, m.2.2.2.2.2, (m.2.2.1.length : Int)]
def devL (d : Dv) : List Int := encI (d.1.length : Int) ++ encAll d.1 ++ encI (d.2.length : Int) ++ d.2
def packF (m : Mach) : List Int := encAll (headL m) ++ m.2.2.1.flatMap devL
def devSz (d : Dv) : Nat := 10 * d.1.length + d.2.length + 20
def packP (m : Mach) : Prop := (∀ n ∈ headL m, i64P n) ∧ (∀ d ∈ m.2.2.1, ∀ n ∈ d.1, i64P n) ∧ m.2.1.1.length = 9 ∧ (m.2.2.1.map devSz).sum ≤ 1099511627776

def seenbS : PSpec := ⟨[gB], fun (b, _) => (none, I (cond b 1 0), [])⟩
theorem seenb_ok : Good Try.prog 93 seenbS.spec := by
  have hT := tab_ok (fs := []) tree_ok
  have hP : SpecsOk Try.prog (tab tree []) := specs_nil
  refine seenbS.good (fn := Try.f93) hT hP Try.func93 (by kernel_rfl) rfl fun (b : Bool) _ => ?_
  cases b
  all_goals
    repeat' first
      | (refine Go.mk ?_; conv => whnf)
      | refine Need.go ?_ ?_
      | refine NilG.go (fun _ => ?_) (fun _ => ?_)
      | refine Br.dec (fun _ => ?_) (fun _ => ?_)
      | refine Br.go (fun _ => ?_) (fun _ => ?_)
      | refine draw_go hT hP mixed ?_
      | refine round_go hT hP ?_
  all_goals exact .mk [] [] _ rfl rfl rfl rfl rfl rfl rfl

theorem headL_len (m : Mach) (h : m.2.1.1.length = 9) : (headL m).length = 17 := by unfold headL; simp [h]
theorem sum_take_le (l : List Nat) (k : Nat) : (l.take k).sum ≤ l.sum := by
  have := List.sum_append_nat (l₁ := l.take k) (l₂ := l.drop k)
  rw [List.take_append_drop] at this
  omega
theorem devL_len {d : Dv} (h : ∀ n ∈ d.1, i64P n) (h2 : d.1.length ≤ 4611686018427387904) (h3 : d.2.length ≤ 4611686018427387904) : (devL d).length ≤ devSz d := by
  have a1 := encAll_len h
  have a2 := encI_len (n := (d.1.length : Int)) (by unfold i64P; omega)
  have a3 := encI_len (n := (d.2.length : Int)) (by unfold i64P; omega)
  unfold devL devSz
  simp only [List.length_append]
  omega
theorem flat_take {ds : List Dv} {k : Nat} (h : k < ds.length) : (ds.take (k + 1)).flatMap devL = (ds.take k).flatMap devL ++ devL (ds.getD k ([], [])) := by
  rw [List.take_add_one, List.flatMap_append, List.getD_eq_getElem?_getD, List.getElem?_eq_getElem h]
  simp
theorem dev_mem {ds : List Dv} {k : Nat} (h : k < ds.length) : ds.getD k ([], []) ∈ ds := by
  rw [List.getD_eq_getElem?_getD, List.getElem?_eq_getElem h]
  exact List.getElem_mem h
theorem devSz_le {ds : List Dv} {d : Dv} (h : d ∈ ds) : devSz d ≤ (ds.map devSz).sum := by
  induction ds with
  | nil => cases h
  | cons x r ih =>
    simp only [List.map_cons, List.sum_cons]
    rcases List.mem_cons.1 h with rfl | h
    · omega
    · have := ih h; omega
theorem devs_len (ds : List Dv) : 20 * ds.length ≤ (ds.map devSz).sum := by
  induction ds with
  | nil => simp
  | cons x r ih => simp only [List.map_cons, List.sum_cons, List.length_cons]; unfold devSz at *; omega
theorem flat_len {ds : List Dv} (h : ∀ d ∈ ds, ∀ n ∈ d.1, i64P n) (hs : (ds.map devSz).sum ≤ 1099511627776) : (ds.flatMap devL).length ≤ (ds.map devSz).sum := by
  induction ds with
  | nil => simp
  | cons x r ih =>
    have h1 := devSz_le (List.mem_cons_self (a := x) (l := r))
    have h2 : devSz x ≤ 1099511627776 := Nat.le_trans h1 hs
    unfold devSz at h2
    have h3 := devL_len (h x (List.mem_cons_self ..)) (by omega) (by omega)
    simp only [List.map_cons, List.sum_cons] at hs
    have h4 := ih (fun d hd => h d (List.mem_cons_of_mem _ hd)) (by omega)
    simp only [List.flatMap_cons, List.length_append, List.map_cons, List.sum_cons]
    omega
theorem flat_take_len {ds : List Dv} (h : ∀ d ∈ ds, ∀ n ∈ d.1, i64P n) (hs : (ds.map devSz).sum ≤ 1099511627776) (k : Nat) : ((ds.take k).flatMap devL).length ≤ (ds.map devSz).sum := by
  have e := sum_take_le (ds.map devSz) k
  rw [← List.map_take] at e
  exact Nat.le_trans (flat_len (fun d hd => h d (List.mem_of_mem_take hd)) (by omega)) e
def packS : PSpec := ⟨[gM], fun (m, _) => (some (packP m), .cell (.own 0), [.arr (.int .u8) (packF m)])⟩
set_option maxHeartbeats 8000000 in
theorem packed_ok : Good Try.prog 46 packS.spec := by
  have hT := tab_ok (fs := [(93, seenbS.spec), (102, addWS.spec)]) tree_ok
  have hP : SpecsOk Try.prog (tab tree [(93, seenbS.spec), (102, addWS.spec)]) := specs_cons seenb_ok (specs_cons add_ok specs_nil)
  refine packS.good (fn := Try.f46) hT hP Try.func46 (by kernel_rfl) rfl fun (m : Mach) hq => ?_
  have hp : packP m := hq _ rfl
  clear hq
  obtain ⟨tm, ⟨r, op, at_, nmi⟩, ds, bd, ba, bdt⟩ := m
  obtain ⟨h1, h2, h3, h4⟩ := hp
  have h3 : r.length = 9 := h3
  repeat' first
    | (refine Go.mk ?_; conv => whnf)
    | refine Need.go ?_ ?_
    | refine NilG.go (fun _ => ?_) (fun _ => ?_)
    | refine Br.dec (fun _ => ?_) (fun _ => ?_)
    | refine Br.go (fun _ => ?_) (fun _ => ?_)
    | refine draw_go hT hP mixed ?_
    | refine round_go hT hP ?_
  all_goals first
    | exact of_decide_eq_true rfl
    | skip
  all_goals
    have h1 : ∀ n ∈ headL (tm, (r, op, at_, nmi), ds, bd, ba, bdt), i64P n := h1
    have h2 : ∀ d ∈ ds, ∀ n ∈ d.1, i64P n := h2
    have h4 : (ds.map devSz).sum ≤ 1099511627776 := h4
    have hH := headL_len (tm, (r, op, at_, nmi), ds, bd, ba, bdt) h3
    have hHl := encAll_len h1
    rw [hH] at hHl
  · show (1 + r.length) * 8 ≤ 70368744177664
    omega
  · show (([tm] ++ r).length + 7) * 8 ≤ 70368744177664
    simp; omega
  · exact ⟨h1, by show 0 + 10 * (headL (tm, (r, op, at_, nmi), ds, bd, ba, bdt)).length ≤ _; omega⟩
  · have hds := devs_len ds
    refine up_go hT hP ds.length (fun i (o : List Int) => St.mk [.dead, .dead, .dead, .dead, .cell (.ptr 0 0), .cell (.fn 102 [0]), .dead, .dead, .dead, .dead, .dead, .dead, .dead, .dead, .dead, .dead, .dead, .dead, .dead, .dead, .dead, .dead, .dead, .dead, .dead, .dead, .dead, .dead, .dead, .dead, .dead, .dead, .dead, .dead, .dead, .dead, .dead, .dead, .dead, .dead, .dead, .dead, .dead, .dead, .dead, .dead, .dead, .dead, .cell (.ro DevT ds), I (ds.length : Int), I i, .dead, .dead, .dead, .dead, .dead, .dead, .dead, .dead, .dead, .dead, .dead, .dead, .dead, .dead, .dead, .dead, .dead, .dead, .dead, .dead, .dead, .dead, .dead, .dead, .dead] [some (.var [.own 1]), some (.arr (.int .u8) o)])
      (fun k o => o = encAll (headL (tm, (r, op, at_, nmi), ds, bd, ba, bdt)) ++ (ds.take k).flatMap devL) (encAll (headL (tm, (r, op, at_, nmi), ds, bd, ba, bdt))) (Le.mk [] [6, 7] rfl rfl ?_ ?_) ?_ fun k o hk hi => ?_
    · exact rfl
    · repeat' first | exact trivial | exact ⟨rfl, rfl⟩ | refine And.intro ?_ ?_
    · simp
    repeat' first
      | (refine Go.mk ?_; conv => whnf)
      | refine Need.go ?_ ?_
      | refine NilG.go (fun _ => ?_) (fun _ => ?_)
      | refine Br.dec (fun _ => ?_) (fun _ => ?_)
      | refine Br.go (fun _ => ?_) (fun _ => ?_)
      | refine draw_go hT hP mixed ?_
      | refine round_go hT hP ?_
    all_goals first
      | exact of_decide_eq_true rfl
      | skip
    · rename_i hlt
      have hlt : (k : Int) < (ds.length : Int) := hlt
      show 0 ≤ (k : Int) ∧ (k : Int) < (ds.length : Int)
      omega
    · rename_i hlt
      have hlt : (k : Int) < (ds.length : Int) := hlt
      have hm : List.getD (α := Den DevT) ds ((k : Int)).toNat (dflt DevT) ∈ ds := dev_mem (by omega)
      have hlo : o.length ≤ 170 + (ds.map devSz).sum := by
        rw [hi, List.length_append]
        have := flat_take_len h2 h4 k
        omega
      have hz := devSz_le hm
      generalize List.getD (α := Den DevT) ds ((k : Int)).toNat (dflt DevT) = D at *
      obtain ⟨N, M⟩ := D
      have hz : 10 * N.length + M.length + 20 ≤ (ds.map devSz).sum := hz
      refine ⟨fun n hn => ?_, ?_⟩
      · have hn : n ∈ [((N.length : Nat) : Int)] := hn
        rw [List.mem_singleton] at hn
        subst hn
        unfold i64P
        omega
      · show o.length + 10 * 1 ≤ 35184372088832
        omega
    · rename_i hlt
      have hlt : (k : Int) < (ds.length : Int) := hlt
      have hm : List.getD (α := Den DevT) ds ((k : Int)).toNat (dflt DevT) ∈ ds := dev_mem (by omega)
      have hft : (ds.take (k + 1)).flatMap devL = (ds.take k).flatMap devL ++ devL (List.getD (α := Den DevT) ds ((k : Int)).toNat (dflt DevT)) := flat_take (by omega)
      have hlo : o.length ≤ 170 + (ds.map devSz).sum := by
        rw [hi, List.length_append]
        have := flat_take_len h2 h4 k
        omega
      generalize List.getD (α := Den DevT) ds ((k : Int)).toNat (dflt DevT) = D at *
      have hD := h2 D hm
      have hz := devSz_le hm
      obtain ⟨N, M⟩ := D
      have hD : ∀ n ∈ N, i64P n := hD
      have hz : 10 * N.length + M.length + 20 ≤ (ds.map devSz).sum := hz
      cases N with
      | nil =>
        conv => whnf
        repeat' first
          | (refine Go.mk ?_; conv => whnf)
          | refine Need.go ?_ ?_
          | refine NilG.go (fun _ => ?_) (fun _ => ?_)
          | refine Br.dec (fun _ => ?_) (fun _ => ?_)
          | refine Br.go (fun _ => ?_) (fun _ => ?_)
          | refine draw_go hT hP mixed ?_
          | refine round_go hT hP ?_
        all_goals
          have eN := encI_len (n := (((([] : List Int)).length : Nat) : Int)) (by unfold i64P; omega)
          have eM := encI_len (n := ((M.length : Nat) : Int)) (by unfold i64P; omega)
          have eA := encAll_len hD
        all_goals first
          | exact of_decide_eq_true rfl
          | (refine ⟨hD, ?_⟩
             show (o ++ (encI (((([] : List Int)).length : Nat) : Int) ++ [])).length + 10 * (([] : List Int)).length ≤ 35184372088832
             simp only [List.length_append, List.length_nil]; first | omega | (simp only [List.length_nil] at eN; omega))
          | (refine ⟨fun n hn => ?_, ?_⟩
             · have hn : n ∈ [((M.length : Nat) : Int)] := hn
               rw [List.mem_singleton] at hn
               subst hn
               unfold i64P
               omega
             · show (o ++ (encI (((([] : List Int)).length : Nat) : Int) ++ [])).length + 10 * 1 ≤ 35184372088832
               simp only [List.length_append, List.length_nil]; first | omega | (simp only [List.length_nil] at eN; omega))
          | (show ((o ++ (encI (((([] : List Int)).length : Nat) : Int) ++ []) ++ (encI ((M.length : Nat) : Int) ++ [])).length + M.length) * 1 ≤ 70368744177664
             simp only [List.length_append, List.length_nil]; first | omega | (simp only [List.length_nil] at eN; omega))
          | skip
        apply Exists.intro
        apply Exists.intro _
        refine And.intro (And.intro ?lt201 (And.intro ?ei201 ?inv201)) (Le.mk [] [0, 7] rfl rfl ?hh201 ?ht201)
        case hh201 => exact rfl
        case ht201 => repeat' first | exact trivial | exact ⟨rfl, rfl⟩ | refine And.intro ?_ ?_
        case lt201 => omega
        case ei201 => exact up_i (by omega)
        · show o ++ (encI (((([] : List Int)).length : Nat) : Int) ++ []) ++ (encI ((M.length : Nat) : Int) ++ []) ++ M = _
          rw [hft, hi]
          simp [devL, encAll]
      | cons a N' =>
        conv => whnf
        repeat' first
          | (refine Go.mk ?_; conv => whnf)
          | refine Need.go ?_ ?_
          | refine NilG.go (fun _ => ?_) (fun _ => ?_)
          | refine Br.dec (fun _ => ?_) (fun _ => ?_)
          | refine Br.go (fun _ => ?_) (fun _ => ?_)
          | refine draw_go hT hP mixed ?_
          | refine round_go hT hP ?_
        all_goals
          have eN := encI_len (n := (((a :: N').length : Nat) : Int)) (by unfold i64P; omega)
          have eM := encI_len (n := ((M.length : Nat) : Int)) (by unfold i64P; omega)
          have eA := encAll_len hD
        all_goals first
          | exact of_decide_eq_true rfl
          | (refine ⟨hD, ?_⟩
             show (o ++ (encI (((a :: N').length : Nat) : Int) ++ [])).length + 10 * (a :: N').length ≤ 35184372088832
             simp only [List.length_append, List.length_nil]; first | omega | (simp only [List.length_nil] at eN; omega))
          | (refine ⟨fun n hn => ?_, ?_⟩
             · have hn : n ∈ [((M.length : Nat) : Int)] := hn
               rw [List.mem_singleton] at hn
               subst hn
               unfold i64P
               omega
             · show (o ++ (encI (((a :: N').length : Nat) : Int) ++ []) ++ encAll (a :: N')).length + 10 * 1 ≤ 35184372088832
               simp only [List.length_append, List.length_nil]; first | omega | (simp only [List.length_nil] at eN; omega))
          | (show ((o ++ (encI (((a :: N').length : Nat) : Int) ++ []) ++ encAll (a :: N') ++ (encI ((M.length : Nat) : Int) ++ [])).length + M.length) * 1 ≤ 70368744177664
             simp only [List.length_append, List.length_nil]; first | omega | (simp only [List.length_nil] at eN; omega))
          | skip
        apply Exists.intro
        apply Exists.intro _
        refine And.intro (And.intro ?lt241 (And.intro ?ei241 ?inv241)) (Le.mk [] [0, 8] rfl rfl ?hh241 ?ht241)
        case hh241 => exact rfl
        case ht241 => repeat' first | exact trivial | exact ⟨rfl, rfl⟩ | refine And.intro ?_ ?_
        case lt241 => omega
        case ei241 => exact up_i (by omega)
        · show o ++ (encI (((a :: N').length : Nat) : Int) ++ []) ++ encAll (a :: N') ++ (encI ((M.length : Nat) : Int) ++ []) ++ M = _
          rw [hft, hi]
          simp [devL, encAll]
    · rename_i hlt
      have hlt : ¬ (k : Int) < (ds.length : Int) := hlt
      refine .mk [] [1] _ rfl rfl rfl rfl rfl (blk_u8 ?_) rfl
      rw [hi, List.take_of_length_le (by omega)]; rfl

end Go.Proofs.Ythpijepbbpcjeaa
