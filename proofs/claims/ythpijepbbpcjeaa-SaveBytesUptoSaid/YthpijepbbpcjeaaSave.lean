/- A machine's state as bytes. -/
import Derived.Test.YthpijepbbpcjeaaPack2
namespace Go.Proofs.Ythpijepbbpcjeaa
open Go.Fw
set_option linter.unusedVariables false
set_option linter.unusedSimpArgs false
set_option linter.constructorNameAsVariable false
set_option maxRecDepth 100000

set_option maxHeartbeats 8000000 in
theorem bytes_ok : Good Try.prog 45 packS.spec := by
  have hT := tab_ok (fs := [(101, putWS.spec)]) tree_ok
  have hP : SpecsOk Try.prog (tab tree [(101, putWS.spec)]) := specs_cons saveput_ok specs_nil
  refine packS.good (fn := Try.f45) hT hP Try.func45 (by kernel_rfl) rfl fun (m : Mach) hq => ?_
  have hp : packP m := hq _ rfl
  clear hq
  obtain ⟨tm, ⟨r, op, at_, nmi⟩, ds, bd, ba, bdt⟩ := m
  obtain ⟨g1, g2, g3, g4⟩ := hp
  have h3 : r.length = 9 := g3
  have h1 : ∀ n ∈ headL (tm, (r, op, at_, nmi), ds, bd, ba, bdt), i64P n := g1
  have h2 : ∀ d ∈ ds, ∀ n ∈ d.1, i64P n := g2
  have h4 : (ds.map devSz).sum ≤ 1099511627776 := g4
  clear g1 g2 g3 g4
  have hr : ∀ n ∈ r, i64P n := fun n hn => h1 n (by unfold headL; simp [hn])
  have ht : i64P tm := h1 tm (by unfold headL; simp)
  have lt := encI_len ht
  repeat' first
    | (refine Go.mk ?_; conv => whnf)
    | refine Need.go ?_ ?_
    | refine NilG.go (fun _ => ?_) (fun _ => ?_)
    | refine Br.dec (fun _ => ?_) (fun _ => ?_)
    | refine Br.go (fun _ => ?_) (fun _ => ?_)
    | refine draw_go hT hP mixed ?_
    | refine round_go hT hP ?_
  · exact ⟨ht, by simp, fun _ => rfl⟩
  refine up_go hT hP 9 (fun i (o : List Int) => St.mk [.dead, .cell (.ptr 0 0), .dead, .cell (.own 1), .dead, .dead, .dead, .dead, .dead, .dead, .dead, .dead, .dead, .dead, .dead, .dead, .dead, .dead, .agg [.run .i64 9 r], I i, .dead, .dead, .dead, .dead, .dead, .dead, .dead, .dead, .dead, .dead, .dead, .dead, .dead, .dead, .dead, .dead, .dead, .dead, .dead, .dead, .dead, .dead, .dead, .dead, .dead, .dead, .dead, .dead, .dead, .dead, .dead, .dead, .dead, .dead, .dead, .dead, .dead, .dead, .dead, .dead, .dead, .dead, .dead, .dead, .dead, .dead, .dead, .dead, .dead, .dead, .dead, .dead, .dead, .dead, .dead, .dead, .dead, .dead, .dead, .dead, .dead, .dead, .dead, .dead, .dead, .dead, .dead, .dead, .dead, .dead, .dead] [some (.var [iv .i64 tm, .run .i64 9 r, iv .i64 op, iv .i64 at_, bv nmi, .ro DevT ds, iv .i64 bd, iv .i64 ba, iv .i64 bdt]), some (.arr (.int .u8) o)])
    (fun k o => o = encI tm ++ encAll (r.take k)) (encI tm) (Le.mk [] [0, 1] rfl rfl ?_ ?_) ?_ fun k o hk hi => ?_
  · exact rfl
  · repeat' first | exact trivial | exact ⟨rfl, rfl⟩ | refine And.intro ?_ ?_
  · simp [encAll]
  have hlo : o.length ≤ 100 := by
    rw [hi, List.length_append]
    have := encAll_take_len hr k
    omega
  repeat' first
    | (refine Go.mk ?_; conv => whnf)
    | refine Need.go ?_ ?_
    | refine NilG.go (fun _ => ?_) (fun _ => ?_)
    | refine Br.dec (fun _ => ?_) (fun _ => ?_)
    | refine Br.go (fun _ => ?_) (fun _ => ?_)
    | refine draw_go hT hP mixed ?_
    | refine round_go hT hP ?_
  all_goals first
    | exact of_decide_eq_true rfl
    | skip
  · show 0 ≤ (k : Int) ∧ (k : Int) < ((9 : Nat) : Int)
    omega
  · exact ⟨hr _ (getD_mem (l := r) (k := k) (by omega)), by show o.length ≤ _; omega, fun h => by cases h⟩
  · apply Exists.intro
    apply Exists.intro _
    refine And.intro (And.intro ?lt58 (And.intro ?ei58 ?inv58)) (Le.mk [] [0, 2] rfl rfl ?hh58 ?ht58)
    case hh58 => exact rfl
    case ht58 => repeat' first | exact trivial | exact ⟨rfl, rfl⟩ | refine And.intro ?_ ?_
    case lt58 => omega
    case ei58 => exact up_i (by omega)
    · show o ++ encI (r.getD k 0) = _
      rw [encAll_take (by omega), ← List.append_assoc, ← hi]
  · rename_i hk9 hnm
    have hk9 : ¬ (k : Int) < 9 := hk9
    obtain rfl : nmi = true := by cases nmi <;> simp_all
    rw [List.take_of_length_le (by omega)] at hi
    have hL : ∀ n ∈ [op, at_, 1, bd, ba, bdt, ((ds.length : Nat) : Int)], i64P n := fun n hn => h1 n (List.mem_append.2 (.inr hn))
    have he : encAll (headL (tm, (r, op, at_, true), ds, bd, ba, bdt)) = o ++ encAll [op, at_, 1, bd, ba, bdt, ((ds.length : Nat) : Int)] := by
      rw [hi]; unfold headL; simp only [encAll_append]; rw [List.append_assoc, List.append_assoc]; congr 1
      simp [encAll]
    clear hi
    refine up_go hT hP 7 (fun i (o : List Int) => St.mk [.dead, .cell (.ptr 0 0), .dead, .cell (.own 1), .dead, .dead, .dead, .dead, .dead, .dead, .dead, .dead, .dead, .dead, .dead, .dead, .dead, .dead, .dead, .dead, .dead, .dead, .dead, .dead, .dead, .dead, .dead, .dead, .dead, .dead, .dead, .dead, .dead, .dead, .dead, .dead, .dead, .dead, .dead, .dead, .dead, .dead, .dead, .dead, .dead, .dead, .dead, .dead, .cell (.own 2), I 7, I i, .dead, .dead, .dead, .dead, .dead, .dead, .dead, .dead, .dead, .dead, .dead, .dead, .dead, .dead, .dead, .dead, .dead, .dead, .dead, .dead, .dead, .dead, .dead, .dead, .dead, .dead, .dead, .dead, .dead, .dead, .dead, .dead, .dead, .dead, .dead, .dead, .dead, .dead, .dead, .dead] [some (.var [iv .i64 tm, .run .i64 9 r, iv .i64 op, iv .i64 at_, bv true, .ro DevT ds, iv .i64 bd, iv .i64 ba, iv .i64 bdt]), some (.arr (.int .u8) o), some (.arr (.int .i64) [op, at_, 1, bd, ba, bdt, ((ds.length : Nat) : Int)])])
      (fun k o' => o' = o ++ encAll ([op, at_, 1, bd, ba, bdt, ((ds.length : Nat) : Int)].take k)) o (Le.mk [] [0, 1, 2] rfl rfl ?_ ?_) ?_ fun j o' hj hij => ?_
    · exact rfl
    · repeat' first | exact trivial | exact ⟨rfl, rfl⟩ | refine And.intro ?_ ?_
    · simp [encAll]
    have hlo' : o'.length ≤ 200 := by
      rw [hij, List.length_append]
      have := encAll_take_len hL j
      simp only [List.length_cons, List.length_nil] at this
      omega
    repeat' first
      | (refine Go.mk ?_; conv => whnf)
      | refine Need.go ?_ ?_
      | refine NilG.go (fun _ => ?_) (fun _ => ?_)
      | refine Br.dec (fun _ => ?_) (fun _ => ?_)
      | refine Br.go (fun _ => ?_) (fun _ => ?_)
      | refine draw_go hT hP mixed ?_
      | refine round_go hT hP ?_
    all_goals first
      | exact of_decide_eq_true rfl
      | skip
    · show 0 ≤ (j : Int) ∧ (j : Int) < ((7 : Nat) : Int)
      omega
    · show j < 7
      omega
    · exact ⟨hL _ (getD_mem (k := j) (by show j < 7; omega)), by show o'.length ≤ _; omega, fun h => by cases h⟩
    · apply Exists.intro
      apply Exists.intro _
      refine And.intro (And.intro ?lt102 (And.intro ?ei102 ?inv102)) (Le.mk [] [0, 3, 2] rfl rfl ?hh102 ?ht102)
      case hh102 => exact rfl
      case ht102 => repeat' first | exact trivial | exact ⟨rfl, rfl⟩ | refine And.intro ?_ ?_
      case lt102 => omega
      case ei102 => exact up_i (by omega)
      · show o' ++ encI (List.getD _ j 0) = _
        rw [encAll_take (by show j < 7; omega), ← List.append_assoc, ← hij]
    · rename_i hj7
      have hj7 : ¬ (j : Int) < 7 := hj7
      rw [List.take_of_length_le (by show 7 ≤ j; omega)] at hij
      rw [← hij] at he
      clear hij hlo hlo' hL
      have hH := encAll_len h1
      rw [headL_len _ h3, he] at hH
      have hds := devs_len ds
      refine up_go hT hP ds.length (fun i (o : List Int) => St.mk [.dead, .dead, .dead, .cell (.own 0), .dead, .dead, .dead, .dead, .dead, .dead, .dead, .dead, .dead, .dead, .dead, .dead, .dead, .dead, .dead, .dead, .dead, .dead, .dead, .dead, .dead, .dead, .dead, .dead, .dead, .dead, .dead, .dead, .dead, .dead, .dead, .dead, .dead, .dead, .dead, .dead, .dead, .dead, .dead, .dead, .dead, .dead, .dead, .dead, .dead, .dead, .dead, .dead, .dead, .dead, .dead, .dead, .dead, .dead, .dead, .cell (.ro DevT ds), I (ds.length : Int), I i, .dead, .dead, .dead, .dead, .dead, .dead, .dead, .dead, .dead, .dead, .dead, .dead, .dead, .dead, .dead, .dead, .dead, .dead, .dead, .dead, .dead, .dead, .dead, .dead, .dead, .dead, .dead, .dead, .dead] [some (.arr (.int .u8) o)])
        (fun k o => o = o' ++ (ds.take k).flatMap devL) o' (Le.mk [] [1] rfl rfl ?_ ?_) ?_ fun k o hk hi => ?_
      · exact rfl
      · repeat' first | exact trivial | exact ⟨rfl, rfl⟩ | refine And.intro ?_ ?_
      · simp
      repeat' first
        | (refine Go.mk ?_; conv => whnf)
        | refine Need.go ?_ ?_
        | refine NilG.go (fun _ => ?_) (fun _ => ?_)
        | refine Br.dec (fun _ => ?_) (fun _ => ?_)
        | refine Br.go (fun _ => ?_) (fun _ => ?_)
        | refine draw_go hT hP mixed ?_
        | refine round_go hT hP ?_
      all_goals first
        | exact of_decide_eq_true rfl
        | skip
      · rename_i hlt
        have hlt : (k : Int) < (ds.length : Int) := hlt
        show 0 ≤ (k : Int) ∧ (k : Int) < (ds.length : Int)
        omega
      · rename_i hlt
        have hlt : (k : Int) < (ds.length : Int) := hlt
        have hm : List.getD (α := Den DevT) ds ((k : Int)).toNat (dflt DevT) ∈ ds := dev_mem (by omega)
        have hlo : o.length ≤ 170 + (ds.map devSz).sum := by
          rw [hi, List.length_append]
          have := flat_take_len h2 h4 k
          omega
        generalize List.getD (α := Den DevT) ds ((k : Int)).toNat (dflt DevT) = D at *
        have hz := devSz_le hm
        obtain ⟨N, M⟩ := D
        have hz : 10 * N.length + M.length + 20 ≤ (ds.map devSz).sum := hz
        exact ⟨by show i64P ((N.length : Nat) : Int); unfold i64P; omega, by show o.length ≤ _; omega, fun h => by cases h⟩
      · rename_i hlt
        have hlt : (k : Int) < (ds.length : Int) := hlt
        have hm : List.getD (α := Den DevT) ds ((k : Int)).toNat (dflt DevT) ∈ ds := dev_mem (by omega)
        have hft : (ds.take (k + 1)).flatMap devL = (ds.take k).flatMap devL ++ devL (List.getD (α := Den DevT) ds ((k : Int)).toNat (dflt DevT)) := flat_take (by omega)
        have hlo : o.length ≤ 170 + (ds.map devSz).sum := by
          rw [hi, List.length_append]
          have := flat_take_len h2 h4 k
          omega
        generalize List.getD (α := Den DevT) ds ((k : Int)).toNat (dflt DevT) = D at *
        have hD := h2 D hm
        have hz := devSz_le hm
        obtain ⟨N, M⟩ := D
        have hD : ∀ n ∈ N, i64P n := hD
        have hz : 10 * N.length + M.length + 20 ≤ (ds.map devSz).sum := hz
        have eN := encI_len (n := ((N.length : Nat) : Int)) (by unfold i64P; omega)
        have eM := encI_len (n := ((M.length : Nat) : Int)) (by unfold i64P; omega)
        refine up_go hT hP N.length (fun i (o : List Int) => St.mk [.dead, .dead, .dead, .cell (.own 1), .dead, .dead, .dead, .dead, .dead, .dead, .cell (.ptr 0 0), .dead, .dead, .dead, .dead, .dead, .dead, .dead, .dead, .dead, .dead, .dead, .dead, .dead, .dead, .dead, .dead, .dead, .dead, .dead, .dead, .dead, .dead, .dead, .dead, .dead, .dead, .dead, .dead, .dead, .dead, .dead, .dead, .dead, .dead, .dead, .dead, .dead, .dead, .dead, .dead, .dead, .dead, .dead, .dead, .dead, .dead, .dead, .dead, .cell (.ro DevT ds), I (ds.length : Int), I (k : Int), .dead, .dead, .dead, .dead, .dead, .dead, .dead, .dead, .dead, .cell (.ro (.int .i64) N), I (N.length : Int), I i, .dead, .dead, .dead, .dead, .dead, .dead, .dead, .dead, .dead, .dead, .dead, .dead, .dead, .dead, .dead, .dead, .dead] [some (.var [.ro (.int .i64) N, .ro (.int .u8) M]), some (.arr (.int .u8) o)])
          (fun j o2 => o2 = (o ++ encI ((N.length : Nat) : Int)) ++ encAll (N.take j)) (o ++ encI ((N.length : Nat) : Int)) (Le.mk [] [1, 2] rfl rfl ?_ ?_) ?_ fun j2 o2 hj2 hi2 => ?_
        · exact rfl
        · repeat' first | exact trivial | exact ⟨rfl, rfl⟩ | refine And.intro ?_ ?_
        · simp [encAll]
        have hlo2 : o2.length ≤ o.length + 10 + 10 * N.length := by
          rw [hi2, List.length_append, List.length_append]
          have := encAll_take_len hD j2
          omega
        repeat' first
          | (refine Go.mk ?_; conv => whnf)
          | refine Need.go ?_ ?_
          | refine NilG.go (fun _ => ?_) (fun _ => ?_)
          | refine Br.dec (fun _ => ?_) (fun _ => ?_)
          | refine Br.go (fun _ => ?_) (fun _ => ?_)
          | refine draw_go hT hP mixed ?_
          | refine round_go hT hP ?_
        all_goals first
          | exact of_decide_eq_true rfl
          | skip
        · rename_i hlt2
          have hlt2 : (j2 : Int) < (N.length : Int) := hlt2
          show 0 ≤ (j2 : Int) ∧ (j2 : Int) < (N.length : Int)
          omega
        · rename_i hlt2
          have hlt2 : (j2 : Int) < (N.length : Int) := hlt2
          exact ⟨hD _ (getD_mem (k := j2) (by omega)), by show o2.length ≤ _; omega, fun h => by cases h⟩
        · rename_i hlt2
          have hlt2 : (j2 : Int) < (N.length : Int) := hlt2
          apply Exists.intro
          apply Exists.intro _
          refine And.intro (And.intro ?lt196 (And.intro ?ei196 ?inv196)) (Le.mk [] [0, 2] rfl rfl ?hh196 ?ht196)
          case hh196 => exact rfl
          case ht196 => repeat' first | exact trivial | exact ⟨rfl, rfl⟩ | refine And.intro ?_ ?_
          case lt196 => omega
          case ei196 => exact up_i (by omega)
          · show o2 ++ encI (List.getD N j2 0) = _
            rw [encAll_take (by omega), ← List.append_assoc, ← hi2]
        · exact ⟨by show i64P ((M.length : Nat) : Int); unfold i64P; omega, by show o2.length ≤ _; omega, fun h => by cases h⟩
        · show ((o2 ++ encI ((M.length : Nat) : Int)).length + M.length) * 1 ≤ 70368744177664
          rw [List.length_append]; omega
        · rename_i hge
          have hge : ¬ (j2 : Int) < (N.length : Int) := hge
          apply Exists.intro
          apply Exists.intro _
          refine And.intro (And.intro ?lt210 (And.intro ?ei210 ?inv210)) (Le.mk [] [3] rfl rfl ?hh210 ?ht210)
          case hh210 => exact rfl
          case ht210 => repeat' first | exact trivial | exact ⟨rfl, rfl⟩ | refine And.intro ?_ ?_
          case lt210 => omega
          case ei210 => exact up_i (by omega)
          · show o2 ++ encI ((M.length : Nat) : Int) ++ M = _
            rw [hft, hi2, hi, show N.take j2 = N from List.take_of_length_le (by omega)]
            simp [devL]
      · rename_i hlt
        have hlt : ¬ (k : Int) < (ds.length : Int) := hlt
        refine .mk [] [0] _ rfl rfl rfl rfl rfl (blk_u8 ?_) rfl
        rw [hi, List.take_of_length_le (by omega), ← he]; rfl
  · rename_i hk9 hnm
    have hk9 : ¬ (k : Int) < 9 := hk9
    obtain rfl : nmi = false := by cases nmi <;> simp_all
    rw [List.take_of_length_le (by omega)] at hi
    have hL : ∀ n ∈ [op, at_, 0, bd, ba, bdt, ((ds.length : Nat) : Int)], i64P n := fun n hn => h1 n (List.mem_append.2 (.inr hn))
    have he : encAll (headL (tm, (r, op, at_, false), ds, bd, ba, bdt)) = o ++ encAll [op, at_, 0, bd, ba, bdt, ((ds.length : Nat) : Int)] := by
      rw [hi]; unfold headL; simp only [encAll_append]; rw [List.append_assoc, List.append_assoc]; congr 1
      simp [encAll]
    clear hi
    refine up_go hT hP 7 (fun i (o : List Int) => St.mk [.dead, .cell (.ptr 0 0), .dead, .cell (.own 1), .dead, .dead, .dead, .dead, .dead, .dead, .dead, .dead, .dead, .dead, .dead, .dead, .dead, .dead, .dead, .dead, .dead, .dead, .dead, .dead, .dead, .dead, .dead, .dead, .dead, .dead, .dead, .dead, .dead, .dead, .dead, .dead, .dead, .dead, .dead, .dead, .dead, .dead, .dead, .dead, .dead, .dead, .dead, .dead, .cell (.own 2), I 7, I i, .dead, .dead, .dead, .dead, .dead, .dead, .dead, .dead, .dead, .dead, .dead, .dead, .dead, .dead, .dead, .dead, .dead, .dead, .dead, .dead, .dead, .dead, .dead, .dead, .dead, .dead, .dead, .dead, .dead, .dead, .dead, .dead, .dead, .dead, .dead, .dead, .dead, .dead, .dead, .dead] [some (.var [iv .i64 tm, .run .i64 9 r, iv .i64 op, iv .i64 at_, bv false, .ro DevT ds, iv .i64 bd, iv .i64 ba, iv .i64 bdt]), some (.arr (.int .u8) o), some (.arr (.int .i64) [op, at_, 0, bd, ba, bdt, ((ds.length : Nat) : Int)])])
      (fun k o' => o' = o ++ encAll ([op, at_, 0, bd, ba, bdt, ((ds.length : Nat) : Int)].take k)) o (Le.mk [] [0, 1, 2] rfl rfl ?_ ?_) ?_ fun j o' hj hij => ?_
    · exact rfl
    · repeat' first | exact trivial | exact ⟨rfl, rfl⟩ | refine And.intro ?_ ?_
    · simp [encAll]
    have hlo' : o'.length ≤ 200 := by
      rw [hij, List.length_append]
      have := encAll_take_len hL j
      simp only [List.length_cons, List.length_nil] at this
      omega
    repeat' first
      | (refine Go.mk ?_; conv => whnf)
      | refine Need.go ?_ ?_
      | refine NilG.go (fun _ => ?_) (fun _ => ?_)
      | refine Br.dec (fun _ => ?_) (fun _ => ?_)
      | refine Br.go (fun _ => ?_) (fun _ => ?_)
      | refine draw_go hT hP mixed ?_
      | refine round_go hT hP ?_
    all_goals first
      | exact of_decide_eq_true rfl
      | skip
    · show 0 ≤ (j : Int) ∧ (j : Int) < ((7 : Nat) : Int)
      omega
    · show j < 7
      omega
    · exact ⟨hL _ (getD_mem (k := j) (by show j < 7; omega)), by show o'.length ≤ _; omega, fun h => by cases h⟩
    · apply Exists.intro
      apply Exists.intro _
      refine And.intro (And.intro ?lt259 (And.intro ?ei259 ?inv259)) (Le.mk [] [0, 3, 2] rfl rfl ?hh259 ?ht259)
      case hh259 => exact rfl
      case ht259 => repeat' first | exact trivial | exact ⟨rfl, rfl⟩ | refine And.intro ?_ ?_
      case lt259 => omega
      case ei259 => exact up_i (by omega)
      · show o' ++ encI (List.getD _ j 0) = _
        rw [encAll_take (by show j < 7; omega), ← List.append_assoc, ← hij]
    · rename_i hj7
      have hj7 : ¬ (j : Int) < 7 := hj7
      rw [List.take_of_length_le (by show 7 ≤ j; omega)] at hij
      rw [← hij] at he
      clear hij hlo hlo' hL
      have hH := encAll_len h1
      rw [headL_len _ h3, he] at hH
      have hds := devs_len ds
      refine up_go hT hP ds.length (fun i (o : List Int) => St.mk [.dead, .dead, .dead, .cell (.own 0), .dead, .dead, .dead, .dead, .dead, .dead, .dead, .dead, .dead, .dead, .dead, .dead, .dead, .dead, .dead, .dead, .dead, .dead, .dead, .dead, .dead, .dead, .dead, .dead, .dead, .dead, .dead, .dead, .dead, .dead, .dead, .dead, .dead, .dead, .dead, .dead, .dead, .dead, .dead, .dead, .dead, .dead, .dead, .dead, .dead, .dead, .dead, .dead, .dead, .dead, .dead, .dead, .dead, .dead, .dead, .cell (.ro DevT ds), I (ds.length : Int), I i, .dead, .dead, .dead, .dead, .dead, .dead, .dead, .dead, .dead, .dead, .dead, .dead, .dead, .dead, .dead, .dead, .dead, .dead, .dead, .dead, .dead, .dead, .dead, .dead, .dead, .dead, .dead, .dead, .dead] [some (.arr (.int .u8) o)])
        (fun k o => o = o' ++ (ds.take k).flatMap devL) o' (Le.mk [] [1] rfl rfl ?_ ?_) ?_ fun k o hk hi => ?_
      · exact rfl
      · repeat' first | exact trivial | exact ⟨rfl, rfl⟩ | refine And.intro ?_ ?_
      · simp
      repeat' first
        | (refine Go.mk ?_; conv => whnf)
        | refine Need.go ?_ ?_
        | refine NilG.go (fun _ => ?_) (fun _ => ?_)
        | refine Br.dec (fun _ => ?_) (fun _ => ?_)
        | refine Br.go (fun _ => ?_) (fun _ => ?_)
        | refine draw_go hT hP mixed ?_
        | refine round_go hT hP ?_
      all_goals first
        | exact of_decide_eq_true rfl
        | skip
      · rename_i hlt
        have hlt : (k : Int) < (ds.length : Int) := hlt
        show 0 ≤ (k : Int) ∧ (k : Int) < (ds.length : Int)
        omega
      · rename_i hlt
        have hlt : (k : Int) < (ds.length : Int) := hlt
        have hm : List.getD (α := Den DevT) ds ((k : Int)).toNat (dflt DevT) ∈ ds := dev_mem (by omega)
        have hlo : o.length ≤ 170 + (ds.map devSz).sum := by
          rw [hi, List.length_append]
          have := flat_take_len h2 h4 k
          omega
        generalize List.getD (α := Den DevT) ds ((k : Int)).toNat (dflt DevT) = D at *
        have hz := devSz_le hm
        obtain ⟨N, M⟩ := D
        have hz : 10 * N.length + M.length + 20 ≤ (ds.map devSz).sum := hz
        exact ⟨by show i64P ((N.length : Nat) : Int); unfold i64P; omega, by show o.length ≤ _; omega, fun h => by cases h⟩
      · rename_i hlt
        have hlt : (k : Int) < (ds.length : Int) := hlt
        have hm : List.getD (α := Den DevT) ds ((k : Int)).toNat (dflt DevT) ∈ ds := dev_mem (by omega)
        have hft : (ds.take (k + 1)).flatMap devL = (ds.take k).flatMap devL ++ devL (List.getD (α := Den DevT) ds ((k : Int)).toNat (dflt DevT)) := flat_take (by omega)
        have hlo : o.length ≤ 170 + (ds.map devSz).sum := by
          rw [hi, List.length_append]
          have := flat_take_len h2 h4 k
          omega
        generalize List.getD (α := Den DevT) ds ((k : Int)).toNat (dflt DevT) = D at *
        have hD := h2 D hm
        have hz := devSz_le hm
        obtain ⟨N, M⟩ := D
        have hD : ∀ n ∈ N, i64P n := hD
        have hz : 10 * N.length + M.length + 20 ≤ (ds.map devSz).sum := hz
        have eN := encI_len (n := ((N.length : Nat) : Int)) (by unfold i64P; omega)
        have eM := encI_len (n := ((M.length : Nat) : Int)) (by unfold i64P; omega)
        refine up_go hT hP N.length (fun i (o : List Int) => St.mk [.dead, .dead, .dead, .cell (.own 1), .dead, .dead, .dead, .dead, .dead, .dead, .cell (.ptr 0 0), .dead, .dead, .dead, .dead, .dead, .dead, .dead, .dead, .dead, .dead, .dead, .dead, .dead, .dead, .dead, .dead, .dead, .dead, .dead, .dead, .dead, .dead, .dead, .dead, .dead, .dead, .dead, .dead, .dead, .dead, .dead, .dead, .dead, .dead, .dead, .dead, .dead, .dead, .dead, .dead, .dead, .dead, .dead, .dead, .dead, .dead, .dead, .dead, .cell (.ro DevT ds), I (ds.length : Int), I (k : Int), .dead, .dead, .dead, .dead, .dead, .dead, .dead, .dead, .dead, .cell (.ro (.int .i64) N), I (N.length : Int), I i, .dead, .dead, .dead, .dead, .dead, .dead, .dead, .dead, .dead, .dead, .dead, .dead, .dead, .dead, .dead, .dead, .dead] [some (.var [.ro (.int .i64) N, .ro (.int .u8) M]), some (.arr (.int .u8) o)])
          (fun j o2 => o2 = (o ++ encI ((N.length : Nat) : Int)) ++ encAll (N.take j)) (o ++ encI ((N.length : Nat) : Int)) (Le.mk [] [1, 2] rfl rfl ?_ ?_) ?_ fun j2 o2 hj2 hi2 => ?_
        · exact rfl
        · repeat' first | exact trivial | exact ⟨rfl, rfl⟩ | refine And.intro ?_ ?_
        · simp [encAll]
        have hlo2 : o2.length ≤ o.length + 10 + 10 * N.length := by
          rw [hi2, List.length_append, List.length_append]
          have := encAll_take_len hD j2
          omega
        repeat' first
          | (refine Go.mk ?_; conv => whnf)
          | refine Need.go ?_ ?_
          | refine NilG.go (fun _ => ?_) (fun _ => ?_)
          | refine Br.dec (fun _ => ?_) (fun _ => ?_)
          | refine Br.go (fun _ => ?_) (fun _ => ?_)
          | refine draw_go hT hP mixed ?_
          | refine round_go hT hP ?_
        all_goals first
          | exact of_decide_eq_true rfl
          | skip
        · rename_i hlt2
          have hlt2 : (j2 : Int) < (N.length : Int) := hlt2
          show 0 ≤ (j2 : Int) ∧ (j2 : Int) < (N.length : Int)
          omega
        · rename_i hlt2
          have hlt2 : (j2 : Int) < (N.length : Int) := hlt2
          exact ⟨hD _ (getD_mem (k := j2) (by omega)), by show o2.length ≤ _; omega, fun h => by cases h⟩
        · rename_i hlt2
          have hlt2 : (j2 : Int) < (N.length : Int) := hlt2
          apply Exists.intro
          apply Exists.intro _
          refine And.intro (And.intro ?lt353 (And.intro ?ei353 ?inv353)) (Le.mk [] [0, 2] rfl rfl ?hh353 ?ht353)
          case hh353 => exact rfl
          case ht353 => repeat' first | exact trivial | exact ⟨rfl, rfl⟩ | refine And.intro ?_ ?_
          case lt353 => omega
          case ei353 => exact up_i (by omega)
          · show o2 ++ encI (List.getD N j2 0) = _
            rw [encAll_take (by omega), ← List.append_assoc, ← hi2]
        · exact ⟨by show i64P ((M.length : Nat) : Int); unfold i64P; omega, by show o2.length ≤ _; omega, fun h => by cases h⟩
        · show ((o2 ++ encI ((M.length : Nat) : Int)).length + M.length) * 1 ≤ 70368744177664
          rw [List.length_append]; omega
        · rename_i hge
          have hge : ¬ (j2 : Int) < (N.length : Int) := hge
          apply Exists.intro
          apply Exists.intro _
          refine And.intro (And.intro ?lt367 (And.intro ?ei367 ?inv367)) (Le.mk [] [3] rfl rfl ?hh367 ?ht367)
          case hh367 => exact rfl
          case ht367 => repeat' first | exact trivial | exact ⟨rfl, rfl⟩ | refine And.intro ?_ ?_
          case lt367 => omega
          case ei367 => exact up_i (by omega)
          · show o2 ++ encI ((M.length : Nat) : Int) ++ M = _
            rw [hft, hi2, hi, show N.take j2 = N from List.take_of_length_le (by omega)]
            simp [devL]
      · rename_i hlt
        have hlt : ¬ (k : Int) < (ds.length : Int) := hlt
        refine .mk [] [0] _ rfl rfl rfl rfl rfl (blk_u8 ?_) rfl
        rw [hi, List.take_of_length_le (by omega), ← he]; rfl

end Go.Proofs.Ythpijepbbpcjeaa
