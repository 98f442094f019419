/- A closed fact on the program. -/
import Derived.Test.YtkmncijipedjaaaGreatChecked
import Derived.Test.YtkmncijipedjaaaGreatRows
import Derived.JoinedOf
set_option maxRecDepth 100000
namespace Go.Proofs.YtkmncijipedjaaaGreat
open Go
theorem cl_mayEnter : Tryz.prog.mayEnter = true := by kernel_rfl
end Go.Proofs.YtkmncijipedjaaaGreat
