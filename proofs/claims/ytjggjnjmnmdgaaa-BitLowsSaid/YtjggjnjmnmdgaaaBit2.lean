/- More of package bit: Sub, Rol, Ror. -/
import Derived.Test.YtjggjnjmnmdgaaaRefLaw
namespace Go.Proofs.Ytjggjnjmnmdgaaa
open Go.Fw
set_option linter.unusedVariables false
set_option linter.unusedSimpArgs false
set_option maxRecDepth 100000

def subD (a b c n : Int) : Int := IntKind.i64.wrap (IntKind.i64.wrap (lowF a (widthF n) - lowF b (widthF n)) - land .i64 c 1)
def subF (a b c n : Int) : Int × Int :=
  if subD a b c n < 0 then (IntKind.i64.wrap (subD a b c n + shl .i64 1 (widthF n)), 1) else (subD a b c n, 0)
def subS : PSpec := ⟨[gi, gi, gi, gi], fun (a, b, c, n, _) => (none, .tup [I1 (subF a b c n).1, I1 (subF a b c n).2], [])⟩
theorem sub_ok : Good Try.prog 24 subS.spec := by
  have hT := tab_ok (fs := [(85, widthS.spec), (33, lowS.spec)]) tree_ok
  have hP : SpecsOk Try.prog (tab tree [(85, widthS.spec), (33, lowS.spec)]) := specs_cons width_ok (specs_cons low_ok specs_nil)
  refine subS.good (fn := Try.f24) hT hP Try.func24 (by kernel_rfl) rfl fun (a b c n : Int) _ => ?_
  repeat' first
    | (refine Go.mk ?_; conv => whnf)
    | refine Need.go ?_ ?_
    | refine Br.dec (fun _ => ?_) (fun _ => ?_)
    | refine Br.go (fun _ => ?_) (fun _ => ?_)
    | refine draw_go hT hP mixed ?_
  · exact (widthF_in n).1
  · rename_i h
    refine .mk [] [] _ rfl rfl rfl rfl rfl rfl ?_
    have e : subF a b c n = (IntKind.i64.wrap (subD a b c n + shl .i64 1 (widthF n)), 1) := if_pos h
    show _ = AV.tup [I1 (subF a b c n).1, I1 (subF a b c n).2]
    rw [e]
    rfl
  · rename_i h
    refine .mk [] [] _ rfl rfl rfl rfl rfl rfl ?_
    have e : subF a b c n = (subD a b c n, 0) := if_neg h
    show _ = AV.tup [I1 (subF a b c n).1, I1 (subF a b c n).2]
    rw [e]
    rfl

def rolX (n c b : Int) : Int := lor .i64 (shl .i64 (lowF n (widthF b)) 1) (land .i64 c 1)
def rolF (n c b : Int) : Int × Int := (lowF (rolX n c b) (widthF b), shr .i64 (rolX n c b) (widthF b))
def rolS : PSpec := ⟨[gi, gi, gi], fun (n, c, b, _) => (none, .tup [I1 (rolF n c b).1, I1 (rolF n c b).2], [])⟩
theorem rol_ok : Good Try.prog 25 rolS.spec := by
  have hT := tab_ok (fs := [(85, widthS.spec), (33, lowS.spec)]) tree_ok
  have hP : SpecsOk Try.prog (tab tree [(85, widthS.spec), (33, lowS.spec)]) := specs_cons width_ok (specs_cons low_ok specs_nil)
  refine rolS.good (fn := Try.f25) hT hP Try.func25 (by kernel_rfl) rfl fun (n c b : Int) _ => ?_
  repeat' first
    | (refine Go.mk ?_; conv => whnf)
    | refine Need.go ?_ ?_
    | refine Br.dec (fun _ => ?_) (fun _ => ?_)
    | refine Br.go (fun _ => ?_) (fun _ => ?_)
    | refine draw_go hT hP mixed ?_
  · decide
  · exact (widthF_in b).1
  · exact .mk [] [] _ rfl rfl rfl rfl rfl rfl rfl

def rorX (n c b : Int) : Int := lor .i64 (lowF n (widthF b)) (shl .i64 (land .i64 c 1) (widthF b))
def rorF (n c b : Int) : Int × Int := (shr .i64 (rorX n c b) 1, land .i64 (rorX n c b) 1)
def rorS : PSpec := ⟨[gi, gi, gi], fun (n, c, b, _) => (none, .tup [I1 (rorF n c b).1, I1 (rorF n c b).2], [])⟩
theorem ror_ok : Good Try.prog 26 rorS.spec := by
  have hT := tab_ok (fs := [(85, widthS.spec), (33, lowS.spec)]) tree_ok
  have hP : SpecsOk Try.prog (tab tree [(85, widthS.spec), (33, lowS.spec)]) := specs_cons width_ok (specs_cons low_ok specs_nil)
  refine rorS.good (fn := Try.f26) hT hP Try.func26 (by kernel_rfl) rfl fun (n c b : Int) _ => ?_
  repeat' first
    | (refine Go.mk ?_; conv => whnf)
    | refine Need.go ?_ ?_
    | refine Br.dec (fun _ => ?_) (fun _ => ?_)
    | refine Br.go (fun _ => ?_) (fun _ => ?_)
    | refine draw_go hT hP mixed ?_
  · exact (widthF_in b).1
  · decide
  · exact .mk [] [] _ rfl rfl rfl rfl rfl rfl rfl

end Go.Proofs.Ytjggjnjmnmdgaaa
