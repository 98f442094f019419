/- Closed facts on the program. -/
import Derived.Test.YtchihdcajdocgaaGreatChecked
import Derived.Test.YtchihdcajdocgaaGreatRows
import Derived.JoinedOf
set_option maxRecDepth 100000
namespace Go.Proofs.YtchihdcajdocgaaGreat
open Go
theorem cl_lifted : (Rows.fnWeightsRow.lifted == Tryz.prog.liftsFinal) = true := by kernel_rfl
theorem cl_make : (Tryz.prog.make == some Rows.fnWeightsRow.make) = true := by kernel_rfl
end Go.Proofs.YtchihdcajdocgaaGreat
