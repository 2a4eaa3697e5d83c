/- Numbers from bytes: how many; a state that was just written. -/
import Derived.Test.YthpijepbbpcjeaaRead
namespace Go.Proofs.Ythpijepbbpcjeaa
open Go.Fw
set_option linter.unusedVariables false
set_option linter.unusedSimpArgs false
set_option linter.constructorNameAsVariable false
set_option maxRecDepth 100000

def manyB (b : List Int) : Bool := decide (nextV b < 0 ∨ nextV b > (nextR b).length)
def manyWS : WSpec := ⟨List Int × Bool, fun _ => [.c (.ptr 0 0)], fun x => [.var [.ro (.int .u8) x.1, bv x.2]], nextRd,
  fun (b, bad) => (some (u8s b ∧ b.length ≤ 4611686018427387904), I (if manyB b = true then 0 else nextV b), [some (.var [.ro (.int .u8) (nextR b), bv (if manyB b = true then true else nextB b bad)])], [])⟩
theorem many_ok : Good Try.prog 105 manyWS.spec := by
  have hT := tab_ok (fs := [(104, nextWS.spec)]) tree_ok
  have hP : SpecsOk Try.prog (tab tree [(104, nextWS.spec)]) := specs_cons next_ok specs_nil
  refine manyWS.good (fn := Try.f105) hT hP Try.func105 (by kernel_rfl) rfl (fun _ _ _ h => nextRd_ok h) fun ((b, bad) : List Int × Bool) hq => ?_
  have hu : u8s b ∧ b.length ≤ 4611686018427387904 := hq _ rfl
  clear hq
  repeat' first
    | (refine Go.mk ?_; conv => whnf)
    | refine Need.go ?_ ?_
    | refine NilG.go (fun _ => ?_) (fun _ => ?_)
    | refine Br.dec (fun _ => ?_) (fun _ => ?_)
    | refine Br.go (fun _ => ?_) (fun _ => ?_)
    | refine draw_go hT hP mixed ?_
    | refine round_go hT hP ?_
  all_goals first
    | exact of_decide_eq_true rfl
    | exact hu
    | skip
  all_goals clear hT hP
  · rename_i h
    have h : nextV b < 0 := h
    have hm : manyB b = true := decide_eq_true (.inl h)
    exact .mk [] [0] _ rfl rfl rfl rfl rfl (var_ro rfl (by rw [hm]; rfl)) (imm_int (by rw [hm]; rfl))
  · rename_i h1 h
    have h : nextV b > ((nextR b).length : Int) := h
    have hm : manyB b = true := decide_eq_true (.inr h)
    exact .mk [] [0] _ rfl rfl rfl rfl rfl (var_ro rfl (by rw [hm]; rfl)) (imm_int (by rw [hm]; rfl))
  · rename_i h1 h
    have h1 : ¬ nextV b < 0 := h1
    have h : ¬ nextV b > ((nextR b).length : Int) := h
    have hm : manyB b = false := decide_eq_false (by omega)
    exact .mk [] [0] _ rfl rfl rfl rfl rfl (var_ro rfl (by rw [hm]; rfl)) (imm_int (by rw [hm]; rfl))

def bytes0 : List Int := [128, 1, 0, 0, 0, 0, 0, 0, 0, 0, 0, 0, 0, 0, 0, 0, 0, 0]
def read0S : PSpec := ⟨[gb], fun (b, _) => (some (b = bytes0), .tup [.agg [iv .i64 64, .run .i64 9 [0, 0, 0, 0, 0, 0, 0, 0, 0], iv .i64 0, iv .i64 0, bv false, .imm (.slice none 0 0), iv .i64 0, iv .i64 0, iv .i64 0], .c (iv .i64 0)], [])⟩
set_option maxHeartbeats 8000000 in
theorem read0_ok : Good Try.prog 47 read0S.spec := by
  have hT := tab_ok (fs := [(104, nextWS.spec), (105, manyWS.spec)]) tree_ok
  have hP : SpecsOk Try.prog (tab tree [(104, nextWS.spec), (105, manyWS.spec)]) := specs_cons next_ok (specs_cons many_ok specs_nil)
  refine read0S.good (fn := Try.f47) hT hP Try.func47 (by kernel_rfl) rfl fun (b : List Int) hq => ?_
  obtain rfl : b = bytes0 := hq _ rfl
  clear hq
  repeat' first
    | (refine Go.mk ?_; conv => whnf)
    | refine Need.go ?_ ?_
    | refine NilG.go (fun _ => ?_) (fun _ => ?_)
    | refine Br.dec (fun _ => ?_) (fun _ => ?_)
    | refine Br.go (fun _ => ?_) (fun _ => ?_)
    | refine draw_go hT hP mixed ?_
    | refine round_go hT hP ?_
  all_goals first
    | exact of_decide_eq_true rfl
    | skip
  refine loop_unroll 10 ?_
  repeat' first
    | (refine Go.mk ?_; conv => whnf)
    | refine Need.go ?_ ?_
    | refine NilG.go (fun _ => ?_) (fun _ => ?_)
    | refine Br.dec (fun _ => ?_) (fun _ => ?_)
    | refine Br.go (fun _ => ?_) (fun _ => ?_)
    | refine draw_go hT hP mixed ?_
    | refine round_go hT hP ?_
  all_goals first
    | exact of_decide_eq_true rfl
    | skip
  refine up_go hT hP 0 (fun i (_ : Unit) => St.mk [.dead, .dead, .cell (.ptr 0 0), .dead, .cell (.ptr 1 0), .cell (.ptr 2 0), .dead, I 0, .dead, .dead, .dead, .dead, .dead, .dead, .dead, .dead, .dead, .dead, .dead, .dead, .dead, .dead, .dead, .dead, .dead, .dead, .dead, .dead, .dead, .dead, .dead, .dead, .dead, .dead, .dead, .dead, .dead, .dead, .dead, .dead, .dead, .dead, .dead, .dead, .dead, .dead, .dead, .dead, .dead, .dead, .dead, .dead, .dead, I 0, I i, .dead, .dead, .dead, .dead, .dead, .dead, .dead, .dead, .dead, .dead, .dead, .dead, .dead, .dead, .dead, .dead, .dead, .dead, .dead, .dead, .dead, .dead, .dead, .dead, .dead, .dead, .dead, .dead, .dead, .dead, .dead, .dead, .dead, .dead, .dead, .dead, .dead, .dead, .dead, .dead, .dead, .dead, .dead, .dead, .dead, .dead, .dead, .dead, .dead, .dead, .dead, .dead, .dead, .dead, .dead, .dead, .dead, .dead, .dead, .dead, .dead]
      [some (.var [iv .i64 0, .run .i64 9 [0, 0, 0, 0, 0, 0, 0, 0, 0], iv .i64 0, iv .i64 0, bv false, .imm (.slice none 0 0), iv .i64 0, iv .i64 0, iv .i64 0]), some (.var [.ro (.int .u8) [], bv false]),
       some (.var [iv .i64 64, .run .i64 9 [0, 0, 0, 0, 0, 0, 0, 0, 0], iv .i64 0, iv .i64 0, bv false, .imm (.slice none 0 0), iv .i64 0, iv .i64 0, iv .i64 0])])
    (fun k _ => True) () (Le.mk [] [0, 1, 2] rfl rfl ?_ ?_) trivial fun k _ hk _ => ?_
  · exact rfl
  · repeat' first | exact trivial | exact ⟨rfl, rfl⟩ | refine And.intro ?_ ?_
  obtain rfl : k = 0 := by omega
  repeat' first
    | (refine Go.mk ?_; conv => whnf)
    | refine Need.go ?_ ?_
    | refine NilG.go (fun _ => ?_) (fun _ => ?_)
    | refine Br.dec (fun _ => ?_) (fun _ => ?_)
    | refine Br.go (fun _ => ?_) (fun _ => ?_)
    | refine draw_go hT hP mixed ?_
    | refine round_go hT hP ?_
  all_goals first
    | exact of_decide_eq_true rfl
    | skip
  exact .mk [] [] _ rfl rfl rfl rfl rfl rfl rfl

end Go.Proofs.Ythpijepbbpcjeaa
