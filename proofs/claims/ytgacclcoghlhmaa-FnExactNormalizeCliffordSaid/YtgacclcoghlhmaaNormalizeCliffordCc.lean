/- Closed facts on the program. -/
import Derived.Test.YtgacclcoghlhmaaChecked
import Derived.Test.YtgacclcoghlhmaaRows
import Derived.JoinedOf
set_option maxRecDepth 100000
namespace Go.Proofs.Ytgacclcoghlhmaa
open Go
theorem cl_stopsHeard : Try.prog.stopsHeard = true := by kernel_rfl
end Go.Proofs.Ytgacclcoghlhmaa
