/- Closed facts on the program. -/
import Derived.Test.YtgacclcoghlhmaaChecked
import Derived.Test.YtgacclcoghlhmaaRows
import Derived.JoinedOf
set_option maxRecDepth 100000
namespace Go.Proofs.Ytgacclcoghlhmaa
open Go
theorem cl_lifted : (Rows.fnExactNormalizeCliffordRow.lifted == Try.prog.liftsFinal) = true := by kernel_rfl
theorem cl_make : (Try.prog.make == some Rows.fnExactNormalizeCliffordRow.make) = true := by kernel_rfl
end Go.Proofs.Ytgacclcoghlhmaa
