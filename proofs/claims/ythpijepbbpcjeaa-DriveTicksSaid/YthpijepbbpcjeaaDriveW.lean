/- What a disk chip's state that reads well keeps to. -/
import Derived.Test.YthpijepbbpcjeaaDriveTicks
import Derived.Test.YthpijepbbpcjeaaFw32
namespace Go.Proofs.Ythpijepbbpcjeaa
open Go.Fw
open Go.ChangeShapes Go.WideShapes in
theorem dt_pre (xs : Args dtS.gs) (hw : WfA dtS.gs xs) : dtP xs.1 := by
  refine ⟨?_, u8s_of hw.1.2.2⟩
  have h := hw.1.2.1
  simp only [Ty.by_, IntKind.bits, reachBytes] at h
  omega

end Go.Proofs.Ythpijepbbpcjeaa
