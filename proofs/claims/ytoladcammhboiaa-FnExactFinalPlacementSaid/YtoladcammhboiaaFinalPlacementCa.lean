/- Closed facts on the program: what the row names. -/
import Derived.Test.YtoladcammhboiaaChecked
import Derived.Test.YtoladcammhboiaaRows
import Derived.JoinedOf
set_option maxRecDepth 100000
namespace Go.Proofs.Ytoladcammhboiaa
open Go
theorem cl_inPlace : (Rows.fnExactFinalPlacementRow.inPlace == Try.prog.inPlace 9) = true := by kernel_rfl
theorem cl_unfollowed : (Rows.fnExactFinalPlacementRow.unfollowed == Try.prog.unfollowed 9) = true := by kernel_rfl
theorem cl_recurses : (Rows.fnExactFinalPlacementRow.recurses == Try.prog.recurses 9) = true := by kernel_rfl
theorem cl_named : (Rows.fnExactFinalPlacementRow.named == Try.prog.varsNamed 9) = true := by kernel_rfl
end Go.Proofs.Ytoladcammhboiaa
