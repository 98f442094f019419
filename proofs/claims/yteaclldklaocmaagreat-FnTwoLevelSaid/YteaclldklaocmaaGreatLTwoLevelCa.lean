/- Closed facts on the program: what the row names. -/
import Derived.Test.YteaclldklaocmaaGreatChecked
import Derived.Test.YteaclldklaocmaaGreatRows
import Derived.JoinedOf
set_option maxRecDepth 100000
namespace Go.Proofs.YteaclldklaocmaaGreat
open Go
theorem cl_inPlace : (Rows.fnTwoLevelRow.inPlace == Tryz.prog.inPlace 3) = true := by kernel_rfl
theorem cl_unfollowed : (Rows.fnTwoLevelRow.unfollowed == Tryz.prog.unfollowed 3) = true := by kernel_rfl
theorem cl_recurses : (Rows.fnTwoLevelRow.recurses == Tryz.prog.recurses 3) = true := by kernel_rfl
theorem cl_named : (Rows.fnTwoLevelRow.named == Tryz.prog.varsNamed 3) = true := by kernel_rfl
end Go.Proofs.YteaclldklaocmaaGreat
