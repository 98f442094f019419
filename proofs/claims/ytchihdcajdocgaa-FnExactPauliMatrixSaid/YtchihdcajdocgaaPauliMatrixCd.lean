/- Closed facts on the program. -/
import Derived.Test.YtchihdcajdocgaaChecked
import Derived.Test.YtchihdcajdocgaaRows
import Derived.JoinedOf
set_option maxRecDepth 100000
namespace Go.Proofs.Ytchihdcajdocgaa
open Go
theorem cl_lifted : (Rows.fnExactPauliMatrixRow.lifted == Try.prog.liftsFinal) = true := by kernel_rfl
theorem cl_make : (Try.prog.make == some Rows.fnExactPauliMatrixRow.make) = true := by kernel_rfl
end Go.Proofs.Ytchihdcajdocgaa
