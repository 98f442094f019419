/- A closed fact on the program. -/
import Derived.Test.YtmonoeihfeikeaaGreatDoorChecked
import Derived.Test.YtmonoeihfeikeaaGreatDoorRows
import Derived.JoinedOf
set_option maxRecDepth 100000
namespace Go.Proofs.YtmonoeihfeikeaaGreatDoor
open Go
theorem cl_mayEnter : Tryz.prog.mayEnter = true := by kernel_rfl
end Go.Proofs.YtmonoeihfeikeaaGreatDoor
