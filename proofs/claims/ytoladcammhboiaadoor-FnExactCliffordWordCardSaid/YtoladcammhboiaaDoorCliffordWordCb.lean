/- A closed fact on the program. -/
import Derived.Test.YtoladcammhboiaaDoorChecked
import Derived.Test.YtoladcammhboiaaDoorRows
import Derived.JoinedOf
set_option maxRecDepth 100000
namespace Go.Proofs.YtoladcammhboiaaDoor
open Go
theorem cl_mayEnter : Tryd.prog.mayEnter = true := by kernel_rfl
end Go.Proofs.YtoladcammhboiaaDoor
