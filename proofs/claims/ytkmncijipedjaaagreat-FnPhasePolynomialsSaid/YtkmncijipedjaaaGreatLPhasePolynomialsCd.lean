/- Closed facts on the program. -/
import Derived.Test.YtkmncijipedjaaaGreatChecked
import Derived.Test.YtkmncijipedjaaaGreatRows
import Derived.JoinedOf
set_option maxRecDepth 100000
namespace Go.Proofs.YtkmncijipedjaaaGreat
open Go
theorem cl_lifted : (Rows.fnPhasePolynomialsRow.lifted == Tryz.prog.liftsFinal) = true := by kernel_rfl
theorem cl_make : (Tryz.prog.make == some Rows.fnPhasePolynomialsRow.make) = true := by kernel_rfl
end Go.Proofs.YtkmncijipedjaaaGreat
