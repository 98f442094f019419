/- Closed facts on the program. -/
import Derived.Test.YtmonoeihfeikeaaGreatChecked
import Derived.Test.YtmonoeihfeikeaaGreatRows
import Derived.JoinedOf
set_option maxRecDepth 100000
namespace Go.Proofs.YtmonoeihfeikeaaGreat
open Go
theorem cl_stopsHeard : Tryz.prog.stopsHeard = true := by kernel_rfl
end Go.Proofs.YtmonoeihfeikeaaGreat
