/- Closed facts on the program: what the row names. -/
import Derived.Test.YtpeokafglhdpcaaChecked
import Derived.Test.YtpeokafglhdpcaaRows
import Derived.JoinedOf
set_option maxRecDepth 100000
namespace Go.Proofs.Ytpeokafglhdpcaa
open Go
theorem cl_inPlace : (Rows.fnExactSameOperatorRow.inPlace == Try.prog.inPlace 7) = true := by kernel_rfl
theorem cl_unfollowed : (Rows.fnExactSameOperatorRow.unfollowed == Try.prog.unfollowed 7) = true := by kernel_rfl
theorem cl_recurses : (Rows.fnExactSameOperatorRow.recurses == Try.prog.recurses 7) = true := by kernel_rfl
theorem cl_named : (Rows.fnExactSameOperatorRow.named == Try.prog.varsNamed 7) = true := by kernel_rfl
end Go.Proofs.Ytpeokafglhdpcaa
