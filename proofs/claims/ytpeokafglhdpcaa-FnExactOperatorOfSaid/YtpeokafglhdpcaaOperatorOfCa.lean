/- Closed facts on the program: what the row names. -/
import Derived.Test.YtpeokafglhdpcaaChecked
import Derived.Test.YtpeokafglhdpcaaRows
import Derived.JoinedOf
set_option maxRecDepth 100000
namespace Go.Proofs.Ytpeokafglhdpcaa
open Go
theorem cl_inPlace : (Rows.fnExactOperatorOfRow.inPlace == Try.prog.inPlace 13) = true := by kernel_rfl
theorem cl_unfollowed : (Rows.fnExactOperatorOfRow.unfollowed == Try.prog.unfollowed 13) = true := by kernel_rfl
theorem cl_recurses : (Rows.fnExactOperatorOfRow.recurses == Try.prog.recurses 13) = true := by kernel_rfl
theorem cl_named : (Rows.fnExactOperatorOfRow.named == Try.prog.varsNamed 13) = true := by kernel_rfl
end Go.Proofs.Ytpeokafglhdpcaa
