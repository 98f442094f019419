/- A closed fact on the program. -/
import Derived.Test.YtchihdcajdocgaaGreatChecked
import Derived.Test.YtchihdcajdocgaaGreatRows
import Derived.JoinedOf
set_option maxRecDepth 100000
namespace Go.Proofs.YtchihdcajdocgaaGreat
open Go
theorem cl_mayEnter : Tryz.prog.mayEnter = true := by kernel_rfl
end Go.Proofs.YtchihdcajdocgaaGreat
