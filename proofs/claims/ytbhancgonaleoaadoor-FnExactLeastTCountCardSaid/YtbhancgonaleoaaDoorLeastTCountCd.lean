/- Closed facts on the program. -/
import Derived.Test.YtbhancgonaleoaaDoorChecked
import Derived.Test.YtbhancgonaleoaaDoorRows
import Derived.JoinedOf
set_option maxRecDepth 100000
namespace Go.Proofs.YtbhancgonaleoaaDoor
open Go
theorem cl_lifted : (Rows.fnExactLeastTCountRow.lifted == Tryd.prog.liftsFinal) = true := by kernel_rfl
theorem cl_make : (Tryd.prog.make == some Rows.fnExactLeastTCountRow.make) = true := by kernel_rfl
end Go.Proofs.YtbhancgonaleoaaDoor
