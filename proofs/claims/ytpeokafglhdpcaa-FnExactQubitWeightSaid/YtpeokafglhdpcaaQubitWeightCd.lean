/- Closed facts on the program. -/
import Derived.Test.YtpeokafglhdpcaaChecked
import Derived.Test.YtpeokafglhdpcaaRows
import Derived.JoinedOf
set_option maxRecDepth 100000
namespace Go.Proofs.Ytpeokafglhdpcaa
open Go
theorem cl_lifted : (Rows.fnExactQubitWeightRow.lifted == Try.prog.liftsFinal) = true := by kernel_rfl
theorem cl_make : (Try.prog.make == some Rows.fnExactQubitWeightRow.make) = true := by kernel_rfl
end Go.Proofs.Ytpeokafglhdpcaa
