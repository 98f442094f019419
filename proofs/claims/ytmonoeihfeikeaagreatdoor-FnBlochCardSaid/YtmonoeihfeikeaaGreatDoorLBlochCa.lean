/- Closed facts on the program: what the row names. -/
import Derived.Test.YtmonoeihfeikeaaGreatDoorChecked
import Derived.Test.YtmonoeihfeikeaaGreatDoorRows
import Derived.JoinedOf
set_option maxRecDepth 100000
namespace Go.Proofs.YtmonoeihfeikeaaGreatDoor
open Go
theorem cl_inPlace : (Rows.fnBlochRow.inPlace == Tryz.prog.inPlace 3) = true := by kernel_rfl
theorem cl_unfollowed : (Rows.fnBlochRow.unfollowed == Tryz.prog.unfollowed 3) = true := by kernel_rfl
theorem cl_recurses : (Rows.fnBlochRow.recurses == Tryz.prog.recurses 3) = true := by kernel_rfl
theorem cl_named : (Rows.fnBlochRow.named == Tryz.prog.varsNamed 3) = true := by kernel_rfl
end Go.Proofs.YtmonoeihfeikeaaGreatDoor
