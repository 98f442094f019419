/- Closed facts on the program. -/
import Derived.Test.YtklicjfbpikobaaDoorChecked
import Derived.Test.YtklicjfbpikobaaDoorRows
import Derived.JoinedOf
set_option maxRecDepth 100000
namespace Go.Proofs.YtklicjfbpikobaaDoor
open Go
theorem cl_lifted : (Rows.fnExactReducePathSumRow.lifted == Tryd.prog.liftsFinal) = true := by kernel_rfl
theorem cl_make : (Tryd.prog.make == some Rows.fnExactReducePathSumRow.make) = true := by kernel_rfl
end Go.Proofs.YtklicjfbpikobaaDoor
