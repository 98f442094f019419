/- A closed fact on the program. -/
import Derived.Test.YtchihdcajdocgaaGreatDoorChecked
import Derived.Test.YtchihdcajdocgaaGreatDoorRows
import Derived.JoinedOf
set_option maxRecDepth 100000
namespace Go.Proofs.YtchihdcajdocgaaGreatDoor
open Go
theorem cl_mayEnter : Tryz.prog.mayEnter = true := by kernel_rfl
end Go.Proofs.YtchihdcajdocgaaGreatDoor
