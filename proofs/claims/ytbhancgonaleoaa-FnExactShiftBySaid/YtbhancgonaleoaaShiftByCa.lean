/- Closed facts on the program: what the row names. -/
import Derived.Test.YtbhancgonaleoaaChecked
import Derived.Test.YtbhancgonaleoaaRows
import Derived.JoinedOf
set_option maxRecDepth 100000
namespace Go.Proofs.Ytbhancgonaleoaa
open Go
theorem cl_inPlace : (Rows.fnExactShiftByRow.inPlace == Try.prog.inPlace 4) = true := by kernel_rfl
theorem cl_unfollowed : (Rows.fnExactShiftByRow.unfollowed == Try.prog.unfollowed 4) = true := by kernel_rfl
theorem cl_recurses : (Rows.fnExactShiftByRow.recurses == Try.prog.recurses 4) = true := by kernel_rfl
theorem cl_named : (Rows.fnExactShiftByRow.named == Try.prog.varsNamed 4) = true := by kernel_rfl
end Go.Proofs.Ytbhancgonaleoaa
