/- Closed facts on the program. -/
import Derived.Test.YteaclldklaocmaaGreatChecked
import Derived.Test.YteaclldklaocmaaGreatRows
import Derived.JoinedOf
set_option maxRecDepth 100000
namespace Go.Proofs.YteaclldklaocmaaGreat
open Go
theorem cl_lifted : (Rows.fnTwoLevelRow.lifted == Tryz.prog.liftsFinal) = true := by kernel_rfl
theorem cl_make : (Tryz.prog.make == some Rows.fnTwoLevelRow.make) = true := by kernel_rfl
end Go.Proofs.YteaclldklaocmaaGreat
