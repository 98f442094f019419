/- Closed facts on the program. -/
import Derived.Test.YtbhancgonaleoaaChecked
import Derived.Test.YtbhancgonaleoaaRows
import Derived.JoinedOf
set_option maxRecDepth 100000
namespace Go.Proofs.Ytbhancgonaleoaa
open Go
theorem cl_lifted : (Rows.fnExactCheckReductionRow.lifted == Try.prog.liftsFinal) = true := by kernel_rfl
theorem cl_make : (Try.prog.make == some Rows.fnExactCheckReductionRow.make) = true := by kernel_rfl
end Go.Proofs.Ytbhancgonaleoaa
