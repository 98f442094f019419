/- Closed facts on the program. -/
import Derived.Test.YtoladcammhboiaaChecked
import Derived.Test.YtoladcammhboiaaRows
import Derived.JoinedOf
set_option maxRecDepth 100000
namespace Go.Proofs.Ytoladcammhboiaa
open Go
theorem cl_lifted : (Rows.fnExactRouteCircuitRow.lifted == Try.prog.liftsFinal) = true := by kernel_rfl
theorem cl_make : (Try.prog.make == some Rows.fnExactRouteCircuitRow.make) = true := by kernel_rfl
end Go.Proofs.Ytoladcammhboiaa
