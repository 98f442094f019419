/- Closed facts on the program: what the row names. -/
import Derived.Test.YtchihdcajdocgaaChecked
import Derived.Test.YtchihdcajdocgaaRows
import Derived.JoinedOf
set_option maxRecDepth 100000
namespace Go.Proofs.Ytchihdcajdocgaa
open Go
theorem cl_inPlace : (Rows.fnExactPauliMatrixRow.inPlace == Try.prog.inPlace 3) = true := by kernel_rfl
theorem cl_unfollowed : (Rows.fnExactPauliMatrixRow.unfollowed == Try.prog.unfollowed 3) = true := by kernel_rfl
theorem cl_recurses : (Rows.fnExactPauliMatrixRow.recurses == Try.prog.recurses 3) = true := by kernel_rfl
theorem cl_named : (Rows.fnExactPauliMatrixRow.named == Try.prog.varsNamed 3) = true := by kernel_rfl
end Go.Proofs.Ytchihdcajdocgaa
