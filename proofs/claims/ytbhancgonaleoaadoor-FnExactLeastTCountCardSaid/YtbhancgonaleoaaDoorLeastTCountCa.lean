/- Closed facts on the program: what the row names. -/
import Derived.Test.YtbhancgonaleoaaDoorChecked
import Derived.Test.YtbhancgonaleoaaDoorRows
import Derived.JoinedOf
set_option maxRecDepth 100000
namespace Go.Proofs.YtbhancgonaleoaaDoor
open Go
theorem cl_inPlace : (Rows.fnExactLeastTCountRow.inPlace == Tryd.prog.inPlace 4) = true := by kernel_rfl
theorem cl_unfollowed : (Rows.fnExactLeastTCountRow.unfollowed == Tryd.prog.unfollowed 4) = true := by kernel_rfl
theorem cl_recurses : (Rows.fnExactLeastTCountRow.recurses == Tryd.prog.recurses 4) = true := by kernel_rfl
theorem cl_named : (Rows.fnExactLeastTCountRow.named == Tryd.prog.varsNamed 4) = true := by kernel_rfl
end Go.Proofs.YtbhancgonaleoaaDoor
