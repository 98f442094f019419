/- Closed facts on the program. -/
import Derived.Test.YteaclldklaocmaaChecked
import Derived.Test.YteaclldklaocmaaRows
import Derived.JoinedOf
set_option maxRecDepth 100000
namespace Go.Proofs.Yteaclldklaocmaa
open Go
theorem cl_stopsHeard : Try.prog.stopsHeard = true := by kernel_rfl
end Go.Proofs.Yteaclldklaocmaa
