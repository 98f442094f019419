/- Closed facts on the program. -/
import Derived.Test.YtmonoeihfeikeaaGreatDoorChecked
import Derived.Test.YtmonoeihfeikeaaGreatDoorRows
import Derived.JoinedOf
set_option maxRecDepth 100000
namespace Go.Proofs.YtmonoeihfeikeaaGreatDoor
open Go
theorem cl_lifted : (Rows.fnBlochRow.lifted == Tryz.prog.liftsFinal) = true := by kernel_rfl
theorem cl_make : (Tryz.prog.make == some Rows.fnBlochRow.make) = true := by kernel_rfl
end Go.Proofs.YtmonoeihfeikeaaGreatDoor
