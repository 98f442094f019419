/- Closed facts on the program: what the row names. -/
import Derived.Test.YtkmncijipedjaaaGreatDoorChecked
import Derived.Test.YtkmncijipedjaaaGreatDoorRows
import Derived.JoinedOf
set_option maxRecDepth 100000
namespace Go.Proofs.YtkmncijipedjaaaGreatDoor
open Go
theorem cl_inPlace : (Rows.fnExactIsShortestRow.inPlace == Tryz.prog.inPlace 3) = true := by kernel_rfl
theorem cl_unfollowed : (Rows.fnExactIsShortestRow.unfollowed == Tryz.prog.unfollowed 3) = true := by kernel_rfl
theorem cl_recurses : (Rows.fnExactIsShortestRow.recurses == Tryz.prog.recurses 3) = true := by kernel_rfl
theorem cl_named : (Rows.fnExactIsShortestRow.named == Tryz.prog.varsNamed 3) = true := by kernel_rfl
end Go.Proofs.YtkmncijipedjaaaGreatDoor
