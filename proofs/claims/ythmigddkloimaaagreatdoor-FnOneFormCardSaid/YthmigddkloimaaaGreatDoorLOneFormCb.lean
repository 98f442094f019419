/- A closed fact on the program. -/
import Derived.Test.YthmigddkloimaaaGreatDoorChecked
import Derived.Test.YthmigddkloimaaaGreatDoorRows
import Derived.JoinedOf
set_option maxRecDepth 100000
namespace Go.Proofs.YthmigddkloimaaaGreatDoor
open Go
theorem cl_mayEnter : Tryz.prog.mayEnter = true := by kernel_rfl
end Go.Proofs.YthmigddkloimaaaGreatDoor
