/- Closed facts on the program: what the row names. -/
import Derived.Test.YtbhancgonaleoaaChecked
import Derived.Test.YtbhancgonaleoaaRows
import Derived.JoinedOf
set_option maxRecDepth 100000
namespace Go.Proofs.Ytbhancgonaleoaa
open Go
theorem cl_inPlace : (Rows.fnExactReduceTRow.inPlace == Try.prog.inPlace 5) = true := by kernel_rfl
theorem cl_unfollowed : (Rows.fnExactReduceTRow.unfollowed == Try.prog.unfollowed 5) = true := by kernel_rfl
theorem cl_recurses : (Rows.fnExactReduceTRow.recurses == Try.prog.recurses 5) = true := by kernel_rfl
theorem cl_named : (Rows.fnExactReduceTRow.named == Try.prog.varsNamed 5) = true := by kernel_rfl
end Go.Proofs.Ytbhancgonaleoaa
