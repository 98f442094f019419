/- Closed facts on the program: what the row names. -/
import Derived.Test.YtkmncijipedjaaaGreatChecked
import Derived.Test.YtkmncijipedjaaaGreatRows
import Derived.JoinedOf
set_option maxRecDepth 100000
namespace Go.Proofs.YtkmncijipedjaaaGreat
open Go
theorem cl_inPlace : (Rows.fnPhasePolynomialsRow.inPlace == Tryz.prog.inPlace 5) = true := by kernel_rfl
theorem cl_unfollowed : (Rows.fnPhasePolynomialsRow.unfollowed == Tryz.prog.unfollowed 5) = true := by kernel_rfl
theorem cl_recurses : (Rows.fnPhasePolynomialsRow.recurses == Tryz.prog.recurses 5) = true := by kernel_rfl
theorem cl_named : (Rows.fnPhasePolynomialsRow.named == Tryz.prog.varsNamed 5) = true := by kernel_rfl
end Go.Proofs.YtkmncijipedjaaaGreat
