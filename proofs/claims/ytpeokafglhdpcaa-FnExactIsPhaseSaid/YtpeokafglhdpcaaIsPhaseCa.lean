/- Closed facts on the program: what the row names. -/
import Derived.Test.YtpeokafglhdpcaaChecked
import Derived.Test.YtpeokafglhdpcaaRows
import Derived.JoinedOf
set_option maxRecDepth 100000
namespace Go.Proofs.Ytpeokafglhdpcaa
open Go
theorem cl_inPlace : (Rows.fnExactIsPhaseRow.inPlace == Try.prog.inPlace 6) = true := by kernel_rfl
theorem cl_unfollowed : (Rows.fnExactIsPhaseRow.unfollowed == Try.prog.unfollowed 6) = true := by kernel_rfl
theorem cl_recurses : (Rows.fnExactIsPhaseRow.recurses == Try.prog.recurses 6) = true := by kernel_rfl
theorem cl_named : (Rows.fnExactIsPhaseRow.named == Try.prog.varsNamed 6) = true := by kernel_rfl
end Go.Proofs.Ytpeokafglhdpcaa
