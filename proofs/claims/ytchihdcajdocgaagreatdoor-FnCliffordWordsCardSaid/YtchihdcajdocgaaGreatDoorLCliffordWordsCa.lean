/- Closed facts on the program: what the row names. -/
import Derived.Test.YtchihdcajdocgaaGreatDoorChecked
import Derived.Test.YtchihdcajdocgaaGreatDoorRows
import Derived.JoinedOf
set_option maxRecDepth 100000
namespace Go.Proofs.YtchihdcajdocgaaGreatDoor
open Go
theorem cl_inPlace : (Rows.fnCliffordWordsRow.inPlace == Tryz.prog.inPlace 4) = true := by kernel_rfl
theorem cl_unfollowed : (Rows.fnCliffordWordsRow.unfollowed == Tryz.prog.unfollowed 4) = true := by kernel_rfl
theorem cl_recurses : (Rows.fnCliffordWordsRow.recurses == Tryz.prog.recurses 4) = true := by kernel_rfl
theorem cl_named : (Rows.fnCliffordWordsRow.named == Tryz.prog.varsNamed 4) = true := by kernel_rfl
end Go.Proofs.YtchihdcajdocgaaGreatDoor
