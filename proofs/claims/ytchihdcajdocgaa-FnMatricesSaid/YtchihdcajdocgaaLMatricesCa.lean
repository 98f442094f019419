/- Closed facts on the program: what the row names. -/
import Derived.Test.YtchihdcajdocgaaChecked
import Derived.Test.YtchihdcajdocgaaRows
import Derived.JoinedOf
set_option maxRecDepth 100000
namespace Go.Proofs.Ytchihdcajdocgaa
open Go
theorem cl_inPlace : (Rows.fnMatricesRow.inPlace == Try.prog.inPlace 4) = true := by kernel_rfl
theorem cl_unfollowed : (Rows.fnMatricesRow.unfollowed == Try.prog.unfollowed 4) = true := by kernel_rfl
theorem cl_recurses : (Rows.fnMatricesRow.recurses == Try.prog.recurses 4) = true := by kernel_rfl
theorem cl_named : (Rows.fnMatricesRow.named == Try.prog.varsNamed 4) = true := by kernel_rfl
end Go.Proofs.Ytchihdcajdocgaa
