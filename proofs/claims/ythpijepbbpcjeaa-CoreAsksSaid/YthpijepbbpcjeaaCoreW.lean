/- What a processor and its state that read well keep to. -/
import Derived.Test.YthpijepbbpcjeaaCoreLaw
import Derived.Test.YthpijepbbpcjeaaFw32
namespace Go.Proofs.Ythpijepbbpcjeaa
open Go.Fw
set_option linter.unusedVariables false

open Go.ChangeShapes Go.WideShapes in
theorem cpuW {c : Cpu} (h : Wf CpuT c) : c.2.1.length ≤ 4611686018427387904 := by
  have h := h.2.1.1
  simp only [Ty.by_, IntKind.bits, reachBytes] at h
  omega
theorem korW {k : Kor} (h : Wf CoreT k) : k.1.length = 9 := h.1.1
theorem ca_pre (xs : Args caS.gs) (hw : WfA caS.gs xs) : askP xs.1 xs.2.1 := ⟨cpuW hw.1, korW hw.2.1⟩


end Go.Proofs.Ythpijepbbpcjeaa
