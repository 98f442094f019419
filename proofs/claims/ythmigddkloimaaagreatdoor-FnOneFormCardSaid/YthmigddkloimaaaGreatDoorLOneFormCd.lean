/- Closed facts on the program. -/
import Derived.Test.YthmigddkloimaaaGreatDoorChecked
import Derived.Test.YthmigddkloimaaaGreatDoorRows
import Derived.JoinedOf
set_option maxRecDepth 100000
namespace Go.Proofs.YthmigddkloimaaaGreatDoor
open Go
theorem cl_lifted : (Rows.fnOneFormRow.lifted == Tryz.prog.liftsFinal) = true := by kernel_rfl
theorem cl_make : (Tryz.prog.make == some Rows.fnOneFormRow.make) = true := by kernel_rfl
end Go.Proofs.YthmigddkloimaaaGreatDoor
