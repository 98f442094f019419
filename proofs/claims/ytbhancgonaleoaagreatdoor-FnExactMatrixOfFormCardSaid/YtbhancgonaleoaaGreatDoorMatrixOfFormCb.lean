/- A closed fact on the program. -/
import Derived.Test.YtbhancgonaleoaaGreatDoorChecked
import Derived.Test.YtbhancgonaleoaaGreatDoorRows
import Derived.JoinedOf
set_option maxRecDepth 100000
namespace Go.Proofs.YtbhancgonaleoaaGreatDoor
open Go
theorem cl_mayEnter : Tryz.prog.mayEnter = true := by kernel_rfl
end Go.Proofs.YtbhancgonaleoaaGreatDoor
