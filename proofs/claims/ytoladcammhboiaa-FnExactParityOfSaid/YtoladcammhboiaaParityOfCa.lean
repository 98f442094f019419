/- Closed facts on the program: what the row names. -/
import Derived.Test.YtoladcammhboiaaChecked
import Derived.Test.YtoladcammhboiaaRows
import Derived.JoinedOf
set_option maxRecDepth 100000
namespace Go.Proofs.Ytoladcammhboiaa
open Go
theorem cl_inPlace : (Rows.fnExactParityOfRow.inPlace == Try.prog.inPlace 3) = true := by kernel_rfl
theorem cl_unfollowed : (Rows.fnExactParityOfRow.unfollowed == Try.prog.unfollowed 3) = true := by kernel_rfl
theorem cl_recurses : (Rows.fnExactParityOfRow.recurses == Try.prog.recurses 3) = true := by kernel_rfl
theorem cl_named : (Rows.fnExactParityOfRow.named == Try.prog.varsNamed 3) = true := by kernel_rfl
end Go.Proofs.Ytoladcammhboiaa
