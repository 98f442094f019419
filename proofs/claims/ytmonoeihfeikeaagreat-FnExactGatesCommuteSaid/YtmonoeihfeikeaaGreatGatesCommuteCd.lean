/- Closed facts on the program. -/
import Derived.Test.YtmonoeihfeikeaaGreatChecked
import Derived.Test.YtmonoeihfeikeaaGreatRows
import Derived.JoinedOf
set_option maxRecDepth 100000
namespace Go.Proofs.YtmonoeihfeikeaaGreat
open Go
theorem cl_lifted : (Rows.fnExactGatesCommuteRow.lifted == Tryz.prog.liftsFinal) = true := by kernel_rfl
theorem cl_make : (Tryz.prog.make == some Rows.fnExactGatesCommuteRow.make) = true := by kernel_rfl
end Go.Proofs.YtmonoeihfeikeaaGreat
