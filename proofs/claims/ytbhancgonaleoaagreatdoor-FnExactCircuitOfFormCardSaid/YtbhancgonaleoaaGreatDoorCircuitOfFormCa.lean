/- Closed facts on the program: what the row names. -/
import Derived.Test.YtbhancgonaleoaaGreatDoorChecked
import Derived.Test.YtbhancgonaleoaaGreatDoorRows
import Derived.JoinedOf
set_option maxRecDepth 100000
namespace Go.Proofs.YtbhancgonaleoaaGreatDoor
open Go
theorem cl_inPlace : (Rows.fnExactCircuitOfFormRow.inPlace == Tryz.prog.inPlace 4) = true := by kernel_rfl
theorem cl_unfollowed : (Rows.fnExactCircuitOfFormRow.unfollowed == Tryz.prog.unfollowed 4) = true := by kernel_rfl
theorem cl_recurses : (Rows.fnExactCircuitOfFormRow.recurses == Tryz.prog.recurses 4) = true := by kernel_rfl
theorem cl_named : (Rows.fnExactCircuitOfFormRow.named == Tryz.prog.varsNamed 4) = true := by kernel_rfl
end Go.Proofs.YtbhancgonaleoaaGreatDoor
