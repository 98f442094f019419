/- Closed facts on the program. -/
import Derived.Test.YtbhancgonaleoaaGreatDoorChecked
import Derived.Test.YtbhancgonaleoaaGreatDoorRows
import Derived.JoinedOf
set_option maxRecDepth 100000
namespace Go.Proofs.YtbhancgonaleoaaGreatDoor
open Go
theorem cl_stopsHeard : Tryz.prog.stopsHeard = true := by kernel_rfl
end Go.Proofs.YtbhancgonaleoaaGreatDoor
