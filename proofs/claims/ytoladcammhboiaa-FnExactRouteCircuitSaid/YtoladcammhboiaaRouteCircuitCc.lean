/- Closed facts on the program. -/
import Derived.Test.YtoladcammhboiaaChecked
import Derived.Test.YtoladcammhboiaaRows
import Derived.JoinedOf
set_option maxRecDepth 100000
namespace Go.Proofs.Ytoladcammhboiaa
open Go
theorem cl_stopsHeard : Try.prog.stopsHeard = true := by kernel_rfl
end Go.Proofs.Ytoladcammhboiaa
