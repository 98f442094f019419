/- Closed facts on the program: what the row names. -/
import Derived.Test.YtklicjfbpikobaaDoorChecked
import Derived.Test.YtklicjfbpikobaaDoorRows
import Derived.JoinedOf
set_option maxRecDepth 100000
namespace Go.Proofs.YtklicjfbpikobaaDoor
open Go
theorem cl_inPlace : (Rows.fnExactReducePathSumRow.inPlace == Tryd.prog.inPlace 4) = true := by kernel_rfl
theorem cl_unfollowed : (Rows.fnExactReducePathSumRow.unfollowed == Tryd.prog.unfollowed 4) = true := by kernel_rfl
theorem cl_recurses : (Rows.fnExactReducePathSumRow.recurses == Tryd.prog.recurses 4) = true := by kernel_rfl
theorem cl_named : (Rows.fnExactReducePathSumRow.named == Tryd.prog.varsNamed 4) = true := by kernel_rfl
end Go.Proofs.YtklicjfbpikobaaDoor
