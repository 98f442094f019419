/- Closed facts on the program: what the row names. -/
import Derived.Test.YtklicjfbpikobaaDoorChecked
import Derived.Test.YtklicjfbpikobaaDoorRows
import Derived.JoinedOf
set_option maxRecDepth 100000
namespace Go.Proofs.YtklicjfbpikobaaDoor
open Go
theorem cl_inPlace : (Rows.fnExactReduceStepRow.inPlace == Tryd.prog.inPlace 3) = true := by kernel_rfl
theorem cl_unfollowed : (Rows.fnExactReduceStepRow.unfollowed == Tryd.prog.unfollowed 3) = true := by kernel_rfl
theorem cl_recurses : (Rows.fnExactReduceStepRow.recurses == Tryd.prog.recurses 3) = true := by kernel_rfl
theorem cl_named : (Rows.fnExactReduceStepRow.named == Tryd.prog.varsNamed 3) = true := by kernel_rfl
end Go.Proofs.YtklicjfbpikobaaDoor
