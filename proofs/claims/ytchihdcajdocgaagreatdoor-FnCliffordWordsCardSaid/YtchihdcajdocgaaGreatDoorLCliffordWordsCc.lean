/- Closed facts on the program. -/
import Derived.Test.YtchihdcajdocgaaGreatDoorChecked
import Derived.Test.YtchihdcajdocgaaGreatDoorRows
import Derived.JoinedOf
set_option maxRecDepth 100000
namespace Go.Proofs.YtchihdcajdocgaaGreatDoor
open Go
theorem cl_stopsHeard : Tryz.prog.stopsHeard = true := by kernel_rfl
end Go.Proofs.YtchihdcajdocgaaGreatDoor
