/- bakelaw1.TimerTicks answers true, whatever it is given. -/
import Derived.Test.YtjggjnjmnmdgaaaTimer2
namespace Go.Proofs.Ytjggjnjmnmdgaaa
open Go.Fw
set_option linter.unusedVariables false
set_option linter.unusedSimpArgs false
set_option maxRecDepth 100000

def timersS : PSpec := ⟨[], fun _ => (none, .cell (bv true), [])⟩
theorem timers_ok : Good Try.prog 57 timersS.spec := by
  have hT := tab_ok (fs := [(76, tnewS.spec), (78, twriteS.spec)]) tree_ok
  have hP : SpecsOk Try.prog (tab tree [(76, tnewS.spec), (78, twriteS.spec)]) := specs_cons tnew_ok (specs_cons twrite_ok specs_nil)
  refine timersS.good (fn := Try.f57) hT hP Try.func57 (by kernel_rfl) rfl fun _ => ?_
  repeat' first
    | (refine Go.mk ?_; conv => whnf)
    | refine Need.go ?_ ?_
    | refine NilG.go (fun _ => ?_) (fun _ => ?_)
    | refine Br.dec (fun _ => ?_) (fun _ => ?_)
    | refine Br.go (fun _ => ?_) (fun _ => ?_)
    | refine draw_go hT hP mixed ?_
    | refine round_go hT hP ?_
  all_goals first
    | exact of_decide_eq_true rfl
    | (exfalso; rename_i h; revert h; decide)
    | (refine .mk [] [] _ rfl rfl rfl rfl rfl rfl (imm_bool ?_)
       show ((twN [0, 0, 0, 0] 0 5).getD 1 0 == 5) = true
       decide)

theorem iterT_succ (n : Nat) (l : List Int) : iterT (n + 1) l = tickT (iterT n l) := by
  rw [iterT_add n 1]; rfl
theorem len4 {l : List Int} (h : timN l = l) : l.length ≤ 4611686018427387904 := by
  rw [← h]; exact (by decide : 4 ≤ 4611686018427387904)
theorem iter_form (N : List Int) : ∀ n, timN (iterT n (timN N)) = iterT n (timN N)
  | 0 => timN_form N
  | n + 1 => by rw [iterT_succ]; exact tick_form (iter_form N n)
def ttS : PSpec := ⟨[gD, gi], fun (d, k, _) => (none, .cell (bv true), [])⟩
theorem tt_ok : Good Try.prog 10 ttS.spec := by
  have hT := tab_ok (fs := [(57, timersS.spec), (39, sameS.spec), (55, tformedS.spec), (56, tickedS.spec), (58, ttickS.spec), (59, tskipS.spec)]) tree_ok
  have hP : SpecsOk Try.prog (tab tree [(57, timersS.spec), (39, sameS.spec), (55, tformedS.spec), (56, tickedS.spec), (58, ttickS.spec), (59, tskipS.spec)]) := specs_cons timers_ok (specs_cons same_ok (specs_cons tformed_ok (specs_cons ticked_ok (specs_cons ttick_ok (specs_cons tskip_ok specs_nil)))))
  refine ttS.good (fn := Try.f10) hT hP Try.func10 (by kernel_rfl) rfl fun (d : Dv) (k : Int) _ => ?_
  obtain ⟨N, M⟩ := d
  repeat' first
    | (refine Go.mk ?_; conv => whnf)
    | refine Need.go ?_ ?_
    | refine NilG.go (fun _ => ?_) (fun _ => ?_)
    | refine Br.dec (fun _ => ?_) (fun _ => ?_)
    | refine Br.go (fun _ => ?_) (fun _ => ?_)
    | refine draw_go hT hP mixed ?_
    | refine round_go hT hP ?_
  · exact .mk [] [] _ rfl rfl rfl rfl rfl rfl rfl
  · exact rfl
  rename_i hk
  refine loop_go hT hP (X := Int × List Int) (fun (i, l) => St.mk [.dead, I k, .cell (.ptr 0 0), .dead, .dead, .cell (.ptr 1 0), .cell (.ptr 3 0), .dead, .dead, .dead, .dead, .dead, .dead, I k, I i, .dead, .dead, .dead, .dead, .dead, .dead, .dead, .dead, .dead, .dead, .dead, .dead, .dead, .dead, .dead, .dead, .dead, .dead, .dead, .dead, .dead]
      [some (.var [.ro (.int .i64) N, .ro (.int .u8) M]), some (.var [.imm (.string ByteArray.empty), iv .i64 3, iv .i64 0, iv .i64 0, .imm (.slice none 0 0)]), some (.arr (.int .i64) l), some (.var [.own 2, .imm (.slice none 0 0)])])
    (fun (i, l) => ∃ j : Nat, i = j ∧ j ≤ k.toNat ∧ l = iterT j (timN N) ∧ timN l = l) (fun (i, _) => (k - i).toNat) (0, timN N) (Le.mk [] [0, 1, 2, 3] rfl rfl ?_ ?_) ?_ fun (i, l) hi => ?_
  rotate_right
  repeat' first
    | (refine Go.mk ?_; conv => whnf)
    | refine Need.go ?_ ?_
    | refine NilG.go (fun _ => ?_) (fun _ => ?_)
    | refine Br.dec (fun _ => ?_) (fun _ => ?_)
    | refine Br.go (fun _ => ?_) (fun _ => ?_)
    | refine draw_go hT hP mixed ?_
    | refine round_go hT hP ?_
  rotate_right 3
  · exact rfl
  · repeat' first | exact trivial | exact ⟨rfl, rfl⟩ | refine And.intro ?_ ?_
  · exact ⟨0, rfl, by omega, rfl, timN_form N⟩
  all_goals first
    | exact rfl
    | exact of_decide_eq_true rfl
    | (exfalso; rename_i h; simp at h; done)
    | exact ⟨len4 (tick_form (timN_form N)), Nat.zero_le _⟩
    | exact ⟨len4 (iter_form N k.toNat), Nat.zero_le _⟩
    | (show k ≤ _; omega)
    | skip
  · obtain ⟨j, rfl, hj, hl, hf⟩ := hi
    have e : IntKind.i64.wrap ((j : Int) + 1) = ((j + 1 : Nat) : Int) := by rw [w64 (by omega) (by omega)]; omega
    apply Exists.intro (_, _)
    refine And.intro ?_ (And.intro ?_ (Le.mk [] [0, 1, 4, 3] rfl rfl ?hh ?ht))
    case hh => exact rfl
    case ht => repeat' first | exact trivial | exact ⟨rfl, rfl⟩ | refine And.intro ?_ ?_
    · refine ⟨j + 1, e, by omega, ?_, ?_⟩
      · show tickT (timN l) = _
        rw [hf, hl, iterT_succ]
      · show timN (tickT (timN l)) = tickT (timN l)
        rw [hf]; exact tick_form hf
    · show (k - IntKind.i64.wrap ((j : Int) + 1)).toNat < (k - (j : Int)).toNat
      rw [e]; omega
  · obtain ⟨j, rfl, hj, hl, hf⟩ := hi
    refine .mk [] [] _ rfl rfl rfl rfl rfl rfl (imm_bool ?_)
    have e : k.toNat = j := by omega
    show (bif true then (decide (iterT k.toNat (timN N) = l) && decide (([] : List Int) = [])) else false) = true
    rw [e, hl]; simp

end Go.Proofs.Ytjggjnjmnmdgaaa
