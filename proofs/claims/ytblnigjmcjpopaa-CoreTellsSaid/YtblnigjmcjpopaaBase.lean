/- Numbers of a fixed number of bits: widths, low bits, fields. -/
import Derived.Test.YtblnigjmcjpopaaFwTy
import Derived.Test.YtblnigjmcjpopaaFw29
namespace Go.Proofs.Ytblnigjmcjpopaa
open Go.Fw
set_option linter.unusedVariables false
set_option linter.unusedSimpArgs false
set_option maxRecDepth 100000

abbrev gi : Sig := ⟨false, .int .i64⟩
abbrev I (n : Int) : AV := .cell (iv .i64 n)
abbrev I1 (n : Int) : V1 := .c (iv .i64 n)

def widthF (a : Int) : Int := imax 0 (imin a 62)
def widthS : PSpec := ⟨[gi], fun (a, _) => (none, I (widthF a), [])⟩
theorem width_ok : Good Try.prog 135 widthS.spec := by
  refine widthS.good (fn := Try.f135) (tab_ok (fs := []) tree_ok) specs_nil Try.func135 (by kernel_rfl) rfl fun (a : Int) _ => ?_
  repeat' first
    | (refine Go.mk ?_; conv => whnf)
    | refine Need.go ?_ ?_
    | refine Br.dec (fun _ => ?_) (fun _ => ?_)
    | refine Br.go (fun _ => ?_) (fun _ => ?_)
  exact .mk [] [] _ rfl rfl rfl rfl rfl rfl rfl

def lowF (a b : Int) : Int := land .i64 a (IntKind.i64.wrap (shl .i64 1 (widthF b) - 1))
def lowS : PSpec := ⟨[gi, gi], fun (a, b, _) => (none, I (lowF a b), [])⟩
theorem low_ok : Good Try.prog 70 lowS.spec := by
  have hT := tab_ok (fs := [(135, widthS.spec)]) tree_ok
  have hP : SpecsOk Try.prog (tab tree [(135, widthS.spec)]) := specs_cons width_ok specs_nil
  refine lowS.good (fn := Try.f70) hT hP Try.func70 (by kernel_rfl) rfl fun (a b : Int) _ => ?_
  repeat' first
    | (refine Go.mk ?_; conv => whnf)
    | refine Need.go ?_ ?_
    | refine Br.dec (fun _ => ?_) (fun _ => ?_)
    | refine Br.go (fun _ => ?_) (fun _ => ?_)
  · show 0 ≤ widthF b
    simp only [widthF, imax_eq]; omega
  · exact .mk [] [] _ rfl rfl rfl rfl rfl rfl rfl

def placeF (a b : Int) : Int × Int := (widthF a, imax 0 (imin b (IntKind.i64.wrap (62 - widthF a))))
def placeS : PSpec := ⟨[gi, gi], fun (a, b, _) => (none, .tup [I1 (placeF a b).1, I1 (placeF a b).2], [])⟩
theorem tup2_int {a b c d : Int} (h1 : a = c) (h2 : b = d) : AV.tup [I1 a, I1 b] = AV.tup [I1 c, I1 d] := by rw [h1, h2]
theorem place_ok : Good Try.prog 186 placeS.spec := by
  have hT := tab_ok (fs := [(135, widthS.spec)]) tree_ok
  have hP : SpecsOk Try.prog (tab tree [(135, widthS.spec)]) := specs_cons width_ok specs_nil
  refine placeS.good (fn := Try.f186) hT hP Try.func186 (by kernel_rfl) rfl fun (a b : Int) _ => ?_
  repeat' first
    | (refine Go.mk ?_; conv => whnf)
    | refine Need.go ?_ ?_
    | refine Br.dec (fun _ => ?_) (fun _ => ?_)
    | refine Br.go (fun _ => ?_) (fun _ => ?_)
  exact .mk [] [] _ rfl rfl rfl rfl rfl rfl rfl

def getF (n a s : Int) : Int := lowF (shr .i64 (lowF n 62) (placeF a s).1) (placeF a s).2
def getS : PSpec := ⟨[gi, gi, gi], fun (n, a, s, _) => (none, I (getF n a s), [])⟩
theorem placeF_nn (a s : Int) : 0 ≤ (placeF a s).1 ∧ 0 ≤ (placeF a s).2 := by
  simp only [placeF, widthF, imax_eq]
  constructor <;> omega
theorem get_ok : Good Try.prog 143 getS.spec := by
  have hT := tab_ok (fs := [(186, placeS.spec), (70, lowS.spec)]) tree_ok
  have hP : SpecsOk Try.prog (tab tree [(186, placeS.spec), (70, lowS.spec)]) := specs_cons place_ok (specs_cons low_ok specs_nil)
  refine getS.good (fn := Try.f143) hT hP Try.func143 (by kernel_rfl) rfl fun (n a s : Int) _ => ?_
  repeat' first
    | (refine Go.mk ?_; conv => whnf)
    | refine Need.go ?_ ?_
    | refine Br.dec (fun _ => ?_) (fun _ => ?_)
    | refine Br.go (fun _ => ?_) (fun _ => ?_)
  · exact (placeF_nn a s).1
  · exact .mk [] [] _ rfl rfl rfl rfl rfl rfl rfl

def putF (n a s v : Int) : Int :=
  lor .i64 (landNot .i64 (lowF n 62) (shl .i64 (IntKind.i64.wrap (shl .i64 1 (placeF a s).2 - 1)) (placeF a s).1)) (shl .i64 (lowF v (placeF a s).2) (placeF a s).1)
def putS : PSpec := ⟨[gi, gi, gi, gi], fun (n, a, s, v, _) => (none, I (putF n a s v), [])⟩
theorem put_ok : Good Try.prog 142 putS.spec := by
  have hT := tab_ok (fs := [(186, placeS.spec), (70, lowS.spec)]) tree_ok
  have hP : SpecsOk Try.prog (tab tree [(186, placeS.spec), (70, lowS.spec)]) := specs_cons place_ok (specs_cons low_ok specs_nil)
  refine putS.good (fn := Try.f142) hT hP Try.func142 (by kernel_rfl) rfl fun (n a s v : Int) _ => ?_
  repeat' first
    | (refine Go.mk ?_; conv => whnf)
    | refine Need.go ?_ ?_
    | refine Br.dec (fun _ => ?_) (fun _ => ?_)
    | refine Br.go (fun _ => ?_) (fun _ => ?_)
  · exact (placeF_nn a s).2
  · exact (placeF_nn a s).1
  · exact (placeF_nn a s).1
  · exact .mk [] [] _ rfl rfl rfl rfl rfl rfl rfl

theorem mixed : Try.prog.follows .mixedOrders = true := by kernel_rfl
abbrev gl : Sig := ⟨false, .sl (.int .i64)⟩

end Go.Proofs.Ytblnigjmcjpopaa
