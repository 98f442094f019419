/- Closed facts on the program. -/
import Derived.Test.YteaclldklaocmaaGreatChecked
import Derived.Test.YteaclldklaocmaaGreatRows
import Derived.JoinedOf
set_option maxRecDepth 100000
namespace Go.Proofs.YteaclldklaocmaaGreat
open Go
theorem cl_stopsHeard : Tryz.prog.stopsHeard = true := by kernel_rfl
end Go.Proofs.YteaclldklaocmaaGreat
