/- The functions of package bit that keep to numbers, and bakelaw1.bits. -/
import Derived.Test.YtjggjnjmnmdgaaaFwTy
import Derived.Test.YtjggjnjmnmdgaaaFw29
namespace Go.Proofs.Ytjggjnjmnmdgaaa
open Go.Fw
set_option linter.unusedVariables false
set_option linter.unusedSimpArgs false
set_option maxRecDepth 100000

abbrev gi : Sig := ⟨false, .int .i64⟩
abbrev I (n : Int) : AV := .cell (iv .i64 n)
abbrev I1 (n : Int) : V1 := .c (iv .i64 n)

def widthF (a : Int) : Int := imax 0 (imin a 62)
def widthS : PSpec := ⟨[gi], fun (a, _) => (none, I (widthF a), [])⟩
theorem width_ok : Good Try.prog 85 widthS.spec := by
  refine widthS.good (fn := Try.f85) (tab_ok (fs := []) tree_ok) specs_nil Try.func85 (by kernel_rfl) rfl fun (a : Int) _ => ?_
  repeat' first
    | (refine Go.mk ?_; conv => whnf)
    | refine Need.go ?_ ?_
    | refine Br.dec (fun _ => ?_) (fun _ => ?_)
    | refine Br.go (fun _ => ?_) (fun _ => ?_)
  exact .mk [] [] _ rfl rfl rfl rfl rfl rfl rfl

def lowF (a b : Int) : Int := land .i64 a (IntKind.i64.wrap (shl .i64 1 (widthF b) - 1))
def lowS : PSpec := ⟨[gi, gi], fun (a, b, _) => (none, I (lowF a b), [])⟩
theorem low_ok : Good Try.prog 33 lowS.spec := by
  have hT := tab_ok (fs := [(85, widthS.spec)]) tree_ok
  have hP : SpecsOk Try.prog (tab tree [(85, widthS.spec)]) := specs_cons width_ok specs_nil
  refine lowS.good (fn := Try.f33) hT hP Try.func33 (by kernel_rfl) rfl fun (a b : Int) _ => ?_
  repeat' first
    | (refine Go.mk ?_; conv => whnf)
    | refine Need.go ?_ ?_
    | refine Br.dec (fun _ => ?_) (fun _ => ?_)
    | refine Br.go (fun _ => ?_) (fun _ => ?_)
  · show 0 ≤ widthF b
    simp only [widthF, imax_eq]; omega
  · exact .mk [] [] _ rfl rfl rfl rfl rfl rfl rfl

def placeF (a b : Int) : Int × Int := (widthF a, imax 0 (imin b (IntKind.i64.wrap (62 - widthF a))))
def placeS : PSpec := ⟨[gi, gi], fun (a, b, _) => (none, .tup [I1 (placeF a b).1, I1 (placeF a b).2], [])⟩
theorem tup2_int {a b c d : Int} (h1 : a = c) (h2 : b = d) : AV.tup [I1 a, I1 b] = AV.tup [I1 c, I1 d] := by rw [h1, h2]
theorem place_ok : Good Try.prog 84 placeS.spec := by
  have hT := tab_ok (fs := [(85, widthS.spec)]) tree_ok
  have hP : SpecsOk Try.prog (tab tree [(85, widthS.spec)]) := specs_cons width_ok specs_nil
  refine placeS.good (fn := Try.f84) hT hP Try.func84 (by kernel_rfl) rfl fun (a b : Int) _ => ?_
  repeat' first
    | (refine Go.mk ?_; conv => whnf)
    | refine Need.go ?_ ?_
    | refine Br.dec (fun _ => ?_) (fun _ => ?_)
    | refine Br.go (fun _ => ?_) (fun _ => ?_)
  exact .mk [] [] _ rfl rfl rfl rfl rfl rfl rfl

def getF (n a s : Int) : Int := lowF (shr .i64 (lowF n 62) (placeF a s).1) (placeF a s).2
def getS : PSpec := ⟨[gi, gi, gi], fun (n, a, s, _) => (none, I (getF n a s), [])⟩
theorem placeF_nn (a s : Int) : 0 ≤ (placeF a s).1 ∧ 0 ≤ (placeF a s).2 := by
  simp only [placeF, widthF, imax_eq]
  constructor <;> omega
theorem get_ok : Good Try.prog 19 getS.spec := by
  have hT := tab_ok (fs := [(84, placeS.spec), (33, lowS.spec)]) tree_ok
  have hP : SpecsOk Try.prog (tab tree [(84, placeS.spec), (33, lowS.spec)]) := specs_cons place_ok (specs_cons low_ok specs_nil)
  refine getS.good (fn := Try.f19) hT hP Try.func19 (by kernel_rfl) rfl fun (n a s : Int) _ => ?_
  repeat' first
    | (refine Go.mk ?_; conv => whnf)
    | refine Need.go ?_ ?_
    | refine Br.dec (fun _ => ?_) (fun _ => ?_)
    | refine Br.go (fun _ => ?_) (fun _ => ?_)
  · exact (placeF_nn a s).1
  · exact .mk [] [] _ rfl rfl rfl rfl rfl rfl rfl

def putF (n a s v : Int) : Int :=
  lor .i64 (landNot .i64 (lowF n 62) (shl .i64 (IntKind.i64.wrap (shl .i64 1 (placeF a s).2 - 1)) (placeF a s).1)) (shl .i64 (lowF v (placeF a s).2) (placeF a s).1)
def putS : PSpec := ⟨[gi, gi, gi, gi], fun (n, a, s, v, _) => (none, I (putF n a s v), [])⟩
theorem put_ok : Good Try.prog 20 putS.spec := by
  have hT := tab_ok (fs := [(84, placeS.spec), (33, lowS.spec)]) tree_ok
  have hP : SpecsOk Try.prog (tab tree [(84, placeS.spec), (33, lowS.spec)]) := specs_cons place_ok (specs_cons low_ok specs_nil)
  refine putS.good (fn := Try.f20) hT hP Try.func20 (by kernel_rfl) rfl fun (n a s v : Int) _ => ?_
  repeat' first
    | (refine Go.mk ?_; conv => whnf)
    | refine Need.go ?_ ?_
    | refine Br.dec (fun _ => ?_) (fun _ => ?_)
    | refine Br.go (fun _ => ?_) (fun _ => ?_)
  · exact (placeF_nn a s).2
  · exact (placeF_nn a s).1
  · exact (placeF_nn a s).1
  · exact .mk [] [] _ rfl rfl rfl rfl rfl rfl rfl

def addF (a b c n : Int) : Int × Int :=
  let s := IntKind.i64.wrap (IntKind.i64.wrap (lowF a (widthF n) + lowF b (widthF n)) + land .i64 c 1)
  (lowF s (widthF n), shr .i64 s (widthF n))
def addS : PSpec := ⟨[gi, gi, gi, gi], fun (a, b, c, n, _) => (none, .tup [I1 (addF a b c n).1, I1 (addF a b c n).2], [])⟩
theorem mixed : Try.prog.follows .mixedOrders = true := by kernel_rfl
theorem add_ok : Good Try.prog 23 addS.spec := by
  have hT := tab_ok (fs := [(85, widthS.spec), (33, lowS.spec)]) tree_ok
  have hP : SpecsOk Try.prog (tab tree [(85, widthS.spec), (33, lowS.spec)]) := specs_cons width_ok (specs_cons low_ok specs_nil)
  refine addS.good (fn := Try.f23) hT hP Try.func23 (by kernel_rfl) rfl fun (a b c n : Int) _ => ?_
  repeat' first
    | (refine Go.mk ?_; conv => whnf)
    | refine Need.go ?_ ?_
    | refine Br.dec (fun _ => ?_) (fun _ => ?_)
    | refine Br.go (fun _ => ?_) (fun _ => ?_)
    | refine draw_go hT hP mixed ?_
  · show 0 ≤ widthF n
    simp only [widthF, imax_eq]; omega
  · exact .mk [] [] _ rfl rfl rfl rfl rfl rfl rfl

def bitsS : PSpec := ⟨[], fun _ => (none, .cell (bv true), [])⟩
theorem addF_0 : addF 200 100 0 8 = (44, 1) := by decide +kernel
theorem bits_ok : Good Try.prog 16 bitsS.spec := by
  have hT := tab_ok (fs := [(23, addS.spec)]) tree_ok
  have hP : SpecsOk Try.prog (tab tree [(23, addS.spec)]) := specs_cons add_ok specs_nil
  refine bitsS.good (fn := Try.f16) hT hP Try.func16 (by kernel_rfl) rfl fun _ => ?_
  repeat' first
    | (refine Go.mk ?_; conv => whnf)
    | refine Need.go ?_ ?_
    | refine Br.go (fun _ => ?_) (fun _ => ?_)
    | refine draw_go hT hP mixed ?_
  · refine .mk [] [] _ rfl rfl rfl rfl rfl rfl (imm_bool ?_)
    decide +kernel

end Go.Proofs.Ytjggjnjmnmdgaaa
