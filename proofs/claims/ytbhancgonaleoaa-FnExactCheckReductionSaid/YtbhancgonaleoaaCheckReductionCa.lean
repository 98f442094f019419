/- Closed facts on the program: what the row names. -/
import Derived.Test.YtbhancgonaleoaaChecked
import Derived.Test.YtbhancgonaleoaaRows
import Derived.JoinedOf
set_option maxRecDepth 100000
namespace Go.Proofs.Ytbhancgonaleoaa
open Go
theorem cl_inPlace : (Rows.fnExactCheckReductionRow.inPlace == Try.prog.inPlace 6) = true := by kernel_rfl
theorem cl_unfollowed : (Rows.fnExactCheckReductionRow.unfollowed == Try.prog.unfollowed 6) = true := by kernel_rfl
theorem cl_recurses : (Rows.fnExactCheckReductionRow.recurses == Try.prog.recurses 6) = true := by kernel_rfl
theorem cl_named : (Rows.fnExactCheckReductionRow.named == Try.prog.varsNamed 6) = true := by kernel_rfl
end Go.Proofs.Ytbhancgonaleoaa
