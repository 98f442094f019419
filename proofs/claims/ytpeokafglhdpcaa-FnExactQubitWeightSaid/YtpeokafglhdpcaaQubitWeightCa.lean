/- Closed facts on the program: what the row names. -/
import Derived.Test.YtpeokafglhdpcaaChecked
import Derived.Test.YtpeokafglhdpcaaRows
import Derived.JoinedOf
set_option maxRecDepth 100000
namespace Go.Proofs.Ytpeokafglhdpcaa
open Go
theorem cl_inPlace : (Rows.fnExactQubitWeightRow.inPlace == Try.prog.inPlace 9) = true := by kernel_rfl
theorem cl_unfollowed : (Rows.fnExactQubitWeightRow.unfollowed == Try.prog.unfollowed 9) = true := by kernel_rfl
theorem cl_recurses : (Rows.fnExactQubitWeightRow.recurses == Try.prog.recurses 9) = true := by kernel_rfl
theorem cl_named : (Rows.fnExactQubitWeightRow.named == Try.prog.varsNamed 9) = true := by kernel_rfl
end Go.Proofs.Ytpeokafglhdpcaa
