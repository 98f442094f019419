/- Closed facts on the program: what the row names. -/
import Derived.Test.YtpeokafglhdpcaaChecked
import Derived.Test.YtpeokafglhdpcaaRows
import Derived.JoinedOf
set_option maxRecDepth 100000
namespace Go.Proofs.Ytpeokafglhdpcaa
open Go
theorem cl_inPlace : (Rows.fnExactOutcomeWeightRow.inPlace == Try.prog.inPlace 8) = true := by kernel_rfl
theorem cl_unfollowed : (Rows.fnExactOutcomeWeightRow.unfollowed == Try.prog.unfollowed 8) = true := by kernel_rfl
theorem cl_recurses : (Rows.fnExactOutcomeWeightRow.recurses == Try.prog.recurses 8) = true := by kernel_rfl
theorem cl_named : (Rows.fnExactOutcomeWeightRow.named == Try.prog.varsNamed 8) = true := by kernel_rfl
end Go.Proofs.Ytpeokafglhdpcaa
