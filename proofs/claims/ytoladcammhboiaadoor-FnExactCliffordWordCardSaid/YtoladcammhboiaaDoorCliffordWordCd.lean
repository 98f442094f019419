/- Closed facts on the program. -/
import Derived.Test.YtoladcammhboiaaDoorChecked
import Derived.Test.YtoladcammhboiaaDoorRows
import Derived.JoinedOf
set_option maxRecDepth 100000
namespace Go.Proofs.YtoladcammhboiaaDoor
open Go
theorem cl_lifted : (Rows.fnExactCliffordWordRow.lifted == Tryd.prog.liftsFinal) = true := by kernel_rfl
theorem cl_make : (Tryd.prog.make == some Rows.fnExactCliffordWordRow.make) = true := by kernel_rfl
end Go.Proofs.YtoladcammhboiaaDoor
