/- Closed facts on the program. -/
import Derived.Test.YtmonoeihfeikeaaGreatDoorChecked
import Derived.Test.YtmonoeihfeikeaaGreatDoorRows
import Derived.JoinedOf
set_option maxRecDepth 100000
namespace Go.Proofs.YtmonoeihfeikeaaGreatDoor
open Go
theorem cl_stopsHeard : Tryz.prog.stopsHeard = true := by kernel_rfl
end Go.Proofs.YtmonoeihfeikeaaGreatDoor
