/- Closed facts on the program. -/
import Derived.Test.YtbhancgonaleoaaDoorChecked
import Derived.Test.YtbhancgonaleoaaDoorRows
import Derived.JoinedOf
set_option maxRecDepth 100000
namespace Go.Proofs.YtbhancgonaleoaaDoor
open Go
theorem cl_stopsHeard : Tryd.prog.stopsHeard = true := by kernel_rfl
end Go.Proofs.YtbhancgonaleoaaDoor
