/- Closed facts on the program: what the row names. -/
import Derived.Test.YthmigddkloimaaaGreatDoorChecked
import Derived.Test.YthmigddkloimaaaGreatDoorRows
import Derived.JoinedOf
set_option maxRecDepth 100000
namespace Go.Proofs.YthmigddkloimaaaGreatDoor
open Go
theorem cl_inPlace : (Rows.fnOneFormRow.inPlace == Tryz.prog.inPlace 3) = true := by kernel_rfl
theorem cl_unfollowed : (Rows.fnOneFormRow.unfollowed == Tryz.prog.unfollowed 3) = true := by kernel_rfl
theorem cl_recurses : (Rows.fnOneFormRow.recurses == Tryz.prog.recurses 3) = true := by kernel_rfl
theorem cl_named : (Rows.fnOneFormRow.named == Tryz.prog.varsNamed 3) = true := by kernel_rfl
end Go.Proofs.YthmigddkloimaaaGreatDoor
