/- Closed facts on the program. -/
import Derived.Test.YtkmncijipedjaaaGreatDoorChecked
import Derived.Test.YtkmncijipedjaaaGreatDoorRows
import Derived.JoinedOf
set_option maxRecDepth 100000
namespace Go.Proofs.YtkmncijipedjaaaGreatDoor
open Go
theorem cl_stopsHeard : Tryz.prog.stopsHeard = true := by kernel_rfl
end Go.Proofs.YtkmncijipedjaaaGreatDoor
