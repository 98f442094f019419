/- Closed facts on the program: what the row names. -/
import Derived.Test.YtmonoeihfeikeaaGreatChecked
import Derived.Test.YtmonoeihfeikeaaGreatRows
import Derived.JoinedOf
set_option maxRecDepth 100000
namespace Go.Proofs.YtmonoeihfeikeaaGreat
open Go
theorem cl_inPlace : (Rows.fnOperatorsRow.inPlace == Tryz.prog.inPlace 3) = true := by kernel_rfl
theorem cl_unfollowed : (Rows.fnOperatorsRow.unfollowed == Tryz.prog.unfollowed 3) = true := by kernel_rfl
theorem cl_recurses : (Rows.fnOperatorsRow.recurses == Tryz.prog.recurses 3) = true := by kernel_rfl
theorem cl_named : (Rows.fnOperatorsRow.named == Tryz.prog.varsNamed 3) = true := by kernel_rfl
end Go.Proofs.YtmonoeihfeikeaaGreat
