/- Closed facts on the program: what the row names. -/
import Derived.Test.YtklicjfbpikobaaChecked
import Derived.Test.YtklicjfbpikobaaRows
import Derived.JoinedOf
set_option maxRecDepth 100000
namespace Go.Proofs.Ytklicjfbpikobaa
open Go
theorem cl_inPlace : (Rows.fnExactPathSumOfRow.inPlace == Try.prog.inPlace 6) = true := by kernel_rfl
theorem cl_unfollowed : (Rows.fnExactPathSumOfRow.unfollowed == Try.prog.unfollowed 6) = true := by kernel_rfl
theorem cl_recurses : (Rows.fnExactPathSumOfRow.recurses == Try.prog.recurses 6) = true := by kernel_rfl
theorem cl_named : (Rows.fnExactPathSumOfRow.named == Try.prog.varsNamed 6) = true := by kernel_rfl
end Go.Proofs.Ytklicjfbpikobaa
