/- Closed facts on the program. -/
import Derived.Test.YtchihdcajdocgaaGreatDoorChecked
import Derived.Test.YtchihdcajdocgaaGreatDoorRows
import Derived.JoinedOf
set_option maxRecDepth 100000
namespace Go.Proofs.YtchihdcajdocgaaGreatDoor
open Go
theorem cl_lifted : (Rows.fnCliffordWordsRow.lifted == Tryz.prog.liftsFinal) = true := by kernel_rfl
theorem cl_make : (Tryz.prog.make == some Rows.fnCliffordWordsRow.make) = true := by kernel_rfl
end Go.Proofs.YtchihdcajdocgaaGreatDoor
