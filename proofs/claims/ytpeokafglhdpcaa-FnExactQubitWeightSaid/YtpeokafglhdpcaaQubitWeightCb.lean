/- A closed fact on the program. -/
import Derived.Test.YtpeokafglhdpcaaChecked
import Derived.Test.YtpeokafglhdpcaaRows
import Derived.JoinedOf
set_option maxRecDepth 100000
namespace Go.Proofs.Ytpeokafglhdpcaa
open Go
theorem cl_mayEnter : Try.prog.mayEnter = true := by kernel_rfl
end Go.Proofs.Ytpeokafglhdpcaa
