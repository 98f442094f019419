/- Closed facts on the program: what the row names. -/
import Derived.Test.YtkmncijipedjaaaGreatDoorChecked
import Derived.Test.YtkmncijipedjaaaGreatDoorRows
import Derived.JoinedOf
set_option maxRecDepth 100000
namespace Go.Proofs.YtkmncijipedjaaaGreatDoor
open Go
theorem cl_inPlace : (Rows.fnExactShortestLengthRow.inPlace == Tryz.prog.inPlace 5) = true := by kernel_rfl
theorem cl_unfollowed : (Rows.fnExactShortestLengthRow.unfollowed == Tryz.prog.unfollowed 5) = true := by kernel_rfl
theorem cl_recurses : (Rows.fnExactShortestLengthRow.recurses == Tryz.prog.recurses 5) = true := by kernel_rfl
theorem cl_named : (Rows.fnExactShortestLengthRow.named == Tryz.prog.varsNamed 5) = true := by kernel_rfl
end Go.Proofs.YtkmncijipedjaaaGreatDoor
