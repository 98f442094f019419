/- Closed facts on the program: what the row names. -/
import Derived.Test.YtkmncijipedjaaaGreatDoorChecked
import Derived.Test.YtkmncijipedjaaaGreatDoorRows
import Derived.JoinedOf
set_option maxRecDepth 100000
namespace Go.Proofs.YtkmncijipedjaaaGreatDoor
open Go
theorem cl_inPlace : (Rows.fnExactTableSizeRow.inPlace == Tryz.prog.inPlace 4) = true := by kernel_rfl
theorem cl_unfollowed : (Rows.fnExactTableSizeRow.unfollowed == Tryz.prog.unfollowed 4) = true := by kernel_rfl
theorem cl_recurses : (Rows.fnExactTableSizeRow.recurses == Tryz.prog.recurses 4) = true := by kernel_rfl
theorem cl_named : (Rows.fnExactTableSizeRow.named == Tryz.prog.varsNamed 4) = true := by kernel_rfl
end Go.Proofs.YtkmncijipedjaaaGreatDoor
