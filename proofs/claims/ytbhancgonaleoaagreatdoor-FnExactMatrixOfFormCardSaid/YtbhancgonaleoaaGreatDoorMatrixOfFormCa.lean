/- Closed facts on the program: what the row names. -/
import Derived.Test.YtbhancgonaleoaaGreatDoorChecked
import Derived.Test.YtbhancgonaleoaaGreatDoorRows
import Derived.JoinedOf
set_option maxRecDepth 100000
namespace Go.Proofs.YtbhancgonaleoaaGreatDoor
open Go
theorem cl_inPlace : (Rows.fnExactMatrixOfFormRow.inPlace == Tryz.prog.inPlace 5) = true := by kernel_rfl
theorem cl_unfollowed : (Rows.fnExactMatrixOfFormRow.unfollowed == Tryz.prog.unfollowed 5) = true := by kernel_rfl
theorem cl_recurses : (Rows.fnExactMatrixOfFormRow.recurses == Tryz.prog.recurses 5) = true := by kernel_rfl
theorem cl_named : (Rows.fnExactMatrixOfFormRow.named == Tryz.prog.varsNamed 5) = true := by kernel_rfl
end Go.Proofs.YtbhancgonaleoaaGreatDoor
