/- Closed facts on the program: what the row names. -/
import Derived.Test.YtchihdcajdocgaaGreatChecked
import Derived.Test.YtchihdcajdocgaaGreatRows
import Derived.JoinedOf
set_option maxRecDepth 100000
namespace Go.Proofs.YtchihdcajdocgaaGreat
open Go
theorem cl_inPlace : (Rows.fnReductionsRow.inPlace == Tryz.prog.inPlace 7) = true := by kernel_rfl
theorem cl_unfollowed : (Rows.fnReductionsRow.unfollowed == Tryz.prog.unfollowed 7) = true := by kernel_rfl
theorem cl_recurses : (Rows.fnReductionsRow.recurses == Tryz.prog.recurses 7) = true := by kernel_rfl
theorem cl_named : (Rows.fnReductionsRow.named == Tryz.prog.varsNamed 7) = true := by kernel_rfl
end Go.Proofs.YtchihdcajdocgaaGreat
