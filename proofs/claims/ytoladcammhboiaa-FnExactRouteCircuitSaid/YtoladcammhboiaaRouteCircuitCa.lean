/- Closed facts on the program: what the row names. -/
import Derived.Test.YtoladcammhboiaaChecked
import Derived.Test.YtoladcammhboiaaRows
import Derived.JoinedOf
set_option maxRecDepth 100000
namespace Go.Proofs.Ytoladcammhboiaa
open Go
theorem cl_inPlace : (Rows.fnExactRouteCircuitRow.inPlace == Try.prog.inPlace 10) = true := by kernel_rfl
theorem cl_unfollowed : (Rows.fnExactRouteCircuitRow.unfollowed == Try.prog.unfollowed 10) = true := by kernel_rfl
theorem cl_recurses : (Rows.fnExactRouteCircuitRow.recurses == Try.prog.recurses 10) = true := by kernel_rfl
theorem cl_named : (Rows.fnExactRouteCircuitRow.named == Try.prog.varsNamed 10) = true := by kernel_rfl
end Go.Proofs.Ytoladcammhboiaa
