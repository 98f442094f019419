/- Closed facts on the program: what the row names. -/
import Derived.Test.YtbhancgonaleoaaDoorChecked
import Derived.Test.YtbhancgonaleoaaDoorRows
import Derived.JoinedOf
set_option maxRecDepth 100000
namespace Go.Proofs.YtbhancgonaleoaaDoor
open Go
theorem cl_inPlace : (Rows.fnExactBlochOfRow.inPlace == Tryd.prog.inPlace 3) = true := by kernel_rfl
theorem cl_unfollowed : (Rows.fnExactBlochOfRow.unfollowed == Tryd.prog.unfollowed 3) = true := by kernel_rfl
theorem cl_recurses : (Rows.fnExactBlochOfRow.recurses == Tryd.prog.recurses 3) = true := by kernel_rfl
theorem cl_named : (Rows.fnExactBlochOfRow.named == Tryd.prog.varsNamed 3) = true := by kernel_rfl
end Go.Proofs.YtbhancgonaleoaaDoor
