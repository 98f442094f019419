/- Closed facts on the program: what the row names. -/
import Derived.Test.YtmonoeihfeikeaaGreatChecked
import Derived.Test.YtmonoeihfeikeaaGreatRows
import Derived.JoinedOf
set_option maxRecDepth 100000
namespace Go.Proofs.YtmonoeihfeikeaaGreat
open Go
theorem cl_inPlace : (Rows.fnExactGatesCommuteRow.inPlace == Tryz.prog.inPlace 5) = true := by kernel_rfl
theorem cl_unfollowed : (Rows.fnExactGatesCommuteRow.unfollowed == Tryz.prog.unfollowed 5) = true := by kernel_rfl
theorem cl_recurses : (Rows.fnExactGatesCommuteRow.recurses == Tryz.prog.recurses 5) = true := by kernel_rfl
theorem cl_named : (Rows.fnExactGatesCommuteRow.named == Tryz.prog.varsNamed 5) = true := by kernel_rfl
end Go.Proofs.YtmonoeihfeikeaaGreat
