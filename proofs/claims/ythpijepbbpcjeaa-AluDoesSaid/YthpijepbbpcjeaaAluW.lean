/- What the registers that read well keep to. -/
import Derived.Test.YthpijepbbpcjeaaAluLaw
import Derived.Test.YthpijepbbpcjeaaFw32
namespace Go.Proofs.Ythpijepbbpcjeaa
open Go.Fw
theorem al_pre (xs : Args alS.gs) (hw : WfA alS.gs xs) : List.length xs.2.1 = 9 := hw.2.1.1

end Go.Proofs.Ythpijepbbpcjeaa
