/- A closed fact on the program. -/
import Derived.Test.YtoladcammhboiaaChecked
import Derived.Test.YtoladcammhboiaaRows
import Derived.JoinedOf
set_option maxRecDepth 100000
namespace Go.Proofs.Ytoladcammhboiaa
open Go
theorem cl_mayEnter : Try.prog.mayEnter = true := by kernel_rfl
end Go.Proofs.Ytoladcammhboiaa
