/- Closed facts on the program: what the row names. -/
import Derived.Test.YtbhancgonaleoaaGreatDoorChecked
import Derived.Test.YtbhancgonaleoaaGreatDoorRows
import Derived.JoinedOf
set_option maxRecDepth 100000
namespace Go.Proofs.YtbhancgonaleoaaGreatDoor
open Go
theorem cl_inPlace : (Rows.fnExactCliffordIndexRow.inPlace == Tryz.prog.inPlace 3) = true := by kernel_rfl
theorem cl_unfollowed : (Rows.fnExactCliffordIndexRow.unfollowed == Tryz.prog.unfollowed 3) = true := by kernel_rfl
theorem cl_recurses : (Rows.fnExactCliffordIndexRow.recurses == Tryz.prog.recurses 3) = true := by kernel_rfl
theorem cl_named : (Rows.fnExactCliffordIndexRow.named == Tryz.prog.varsNamed 3) = true := by kernel_rfl
end Go.Proofs.YtbhancgonaleoaaGreatDoor
