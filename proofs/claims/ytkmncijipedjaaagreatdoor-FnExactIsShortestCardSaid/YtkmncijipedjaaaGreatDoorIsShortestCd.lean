/- Closed facts on the program. -/
import Derived.Test.YtkmncijipedjaaaGreatDoorChecked
import Derived.Test.YtkmncijipedjaaaGreatDoorRows
import Derived.JoinedOf
set_option maxRecDepth 100000
namespace Go.Proofs.YtkmncijipedjaaaGreatDoor
open Go
theorem cl_lifted : (Rows.fnExactIsShortestRow.lifted == Tryz.prog.liftsFinal) = true := by kernel_rfl
theorem cl_make : (Tryz.prog.make == some Rows.fnExactIsShortestRow.make) = true := by kernel_rfl
end Go.Proofs.YtkmncijipedjaaaGreatDoor
