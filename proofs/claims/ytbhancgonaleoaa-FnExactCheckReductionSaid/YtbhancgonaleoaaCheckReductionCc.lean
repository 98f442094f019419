/- Closed facts on the program. -/
import Derived.Test.YtbhancgonaleoaaChecked
import Derived.Test.YtbhancgonaleoaaRows
import Derived.JoinedOf
set_option maxRecDepth 100000
namespace Go.Proofs.Ytbhancgonaleoaa
open Go
theorem cl_stopsHeard : Try.prog.stopsHeard = true := by kernel_rfl
end Go.Proofs.Ytbhancgonaleoaa
