/- Closed facts on the program: what the row names. -/
import Derived.Test.YtchihdcajdocgaaChecked
import Derived.Test.YtchihdcajdocgaaRows
import Derived.JoinedOf
set_option maxRecDepth 100000
namespace Go.Proofs.Ytchihdcajdocgaa
open Go
theorem cl_inPlace : (Rows.fnPhaseAlgebraRow.inPlace == Try.prog.inPlace 5) = true := by kernel_rfl
theorem cl_unfollowed : (Rows.fnPhaseAlgebraRow.unfollowed == Try.prog.unfollowed 5) = true := by kernel_rfl
theorem cl_recurses : (Rows.fnPhaseAlgebraRow.recurses == Try.prog.recurses 5) = true := by kernel_rfl
theorem cl_named : (Rows.fnPhaseAlgebraRow.named == Try.prog.varsNamed 5) = true := by kernel_rfl
end Go.Proofs.Ytchihdcajdocgaa
