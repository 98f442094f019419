/- Closed facts on the program: what the row names. -/
import Derived.Test.YtklicjfbpikobaaChecked
import Derived.Test.YtklicjfbpikobaaRows
import Derived.JoinedOf
set_option maxRecDepth 100000
namespace Go.Proofs.Ytklicjfbpikobaa
open Go
theorem cl_inPlace : (Rows.fnExactSubstituteVarRow.inPlace == Try.prog.inPlace 5) = true := by kernel_rfl
theorem cl_unfollowed : (Rows.fnExactSubstituteVarRow.unfollowed == Try.prog.unfollowed 5) = true := by kernel_rfl
theorem cl_recurses : (Rows.fnExactSubstituteVarRow.recurses == Try.prog.recurses 5) = true := by kernel_rfl
theorem cl_named : (Rows.fnExactSubstituteVarRow.named == Try.prog.varsNamed 5) = true := by kernel_rfl
end Go.Proofs.Ytklicjfbpikobaa
