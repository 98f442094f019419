/- Closed facts on the program. -/
import Derived.Test.YtklicjfbpikobaaChecked
import Derived.Test.YtklicjfbpikobaaRows
import Derived.JoinedOf
set_option maxRecDepth 100000
namespace Go.Proofs.Ytklicjfbpikobaa
open Go
theorem cl_lifted : (Rows.fnExactSynthesizeCliffordRow.lifted == Try.prog.liftsFinal) = true := by kernel_rfl
theorem cl_make : (Try.prog.make == some Rows.fnExactSynthesizeCliffordRow.make) = true := by kernel_rfl
end Go.Proofs.Ytklicjfbpikobaa
