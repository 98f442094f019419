/- Closed facts on the program: what the row names. -/
import Derived.Test.YtbhancgonaleoaaChecked
import Derived.Test.YtbhancgonaleoaaRows
import Derived.JoinedOf
set_option maxRecDepth 100000
namespace Go.Proofs.Ytbhancgonaleoaa
open Go
theorem cl_inPlace : (Rows.fnExactStateAfterRow.inPlace == Try.prog.inPlace 3) = true := by kernel_rfl
theorem cl_unfollowed : (Rows.fnExactStateAfterRow.unfollowed == Try.prog.unfollowed 3) = true := by kernel_rfl
theorem cl_recurses : (Rows.fnExactStateAfterRow.recurses == Try.prog.recurses 3) = true := by kernel_rfl
theorem cl_named : (Rows.fnExactStateAfterRow.named == Try.prog.varsNamed 3) = true := by kernel_rfl
end Go.Proofs.Ytbhancgonaleoaa
