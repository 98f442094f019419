/- Closed facts on the program: what the row names. -/
import Derived.Test.YtchihdcajdocgaaGreatChecked
import Derived.Test.YtchihdcajdocgaaGreatRows
import Derived.JoinedOf
set_option maxRecDepth 100000
namespace Go.Proofs.YtchihdcajdocgaaGreat
open Go
theorem cl_inPlace : (Rows.fnWeightsRow.inPlace == Tryz.prog.inPlace 5) = true := by kernel_rfl
theorem cl_unfollowed : (Rows.fnWeightsRow.unfollowed == Tryz.prog.unfollowed 5) = true := by kernel_rfl
theorem cl_recurses : (Rows.fnWeightsRow.recurses == Tryz.prog.recurses 5) = true := by kernel_rfl
theorem cl_named : (Rows.fnWeightsRow.named == Tryz.prog.varsNamed 5) = true := by kernel_rfl
end Go.Proofs.YtchihdcajdocgaaGreat
