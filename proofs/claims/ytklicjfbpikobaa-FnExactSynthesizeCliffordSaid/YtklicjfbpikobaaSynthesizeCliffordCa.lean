/- Closed facts on the program: what the row names. -/
import Derived.Test.YtklicjfbpikobaaChecked
import Derived.Test.YtklicjfbpikobaaRows
import Derived.JoinedOf
set_option maxRecDepth 100000
namespace Go.Proofs.Ytklicjfbpikobaa
open Go
theorem cl_inPlace : (Rows.fnExactSynthesizeCliffordRow.inPlace == Try.prog.inPlace 3) = true := by kernel_rfl
theorem cl_unfollowed : (Rows.fnExactSynthesizeCliffordRow.unfollowed == Try.prog.unfollowed 3) = true := by kernel_rfl
theorem cl_recurses : (Rows.fnExactSynthesizeCliffordRow.recurses == Try.prog.recurses 3) = true := by kernel_rfl
theorem cl_named : (Rows.fnExactSynthesizeCliffordRow.named == Try.prog.varsNamed 3) = true := by kernel_rfl
end Go.Proofs.Ytklicjfbpikobaa
