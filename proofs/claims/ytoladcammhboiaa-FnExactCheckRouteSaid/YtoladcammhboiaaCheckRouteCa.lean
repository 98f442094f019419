/- Closed facts on the program: what the row names. -/
import Derived.Test.YtoladcammhboiaaChecked
import Derived.Test.YtoladcammhboiaaRows
import Derived.JoinedOf
set_option maxRecDepth 100000
namespace Go.Proofs.Ytoladcammhboiaa
open Go
theorem cl_inPlace : (Rows.fnExactCheckRouteRow.inPlace == Try.prog.inPlace 8) = true := by kernel_rfl
theorem cl_unfollowed : (Rows.fnExactCheckRouteRow.unfollowed == Try.prog.unfollowed 8) = true := by kernel_rfl
theorem cl_recurses : (Rows.fnExactCheckRouteRow.recurses == Try.prog.recurses 8) = true := by kernel_rfl
theorem cl_named : (Rows.fnExactCheckRouteRow.named == Try.prog.varsNamed 8) = true := by kernel_rfl
end Go.Proofs.Ytoladcammhboiaa
