/- Closed facts on the program. -/
import Derived.Test.YtbhancgonaleoaaGreatDoorChecked
import Derived.Test.YtbhancgonaleoaaGreatDoorRows
import Derived.JoinedOf
set_option maxRecDepth 100000
namespace Go.Proofs.YtbhancgonaleoaaGreatDoor
open Go
theorem cl_lifted : (Rows.fnExactMatrixOfFormRow.lifted == Tryz.prog.liftsFinal) = true := by kernel_rfl
theorem cl_make : (Tryz.prog.make == some Rows.fnExactMatrixOfFormRow.make) = true := by kernel_rfl
end Go.Proofs.YtbhancgonaleoaaGreatDoor
