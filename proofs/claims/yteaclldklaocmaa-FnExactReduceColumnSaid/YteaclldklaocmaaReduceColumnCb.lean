/- A closed fact on the program. -/
import Derived.Test.YteaclldklaocmaaChecked
import Derived.Test.YteaclldklaocmaaRows
import Derived.JoinedOf
set_option maxRecDepth 100000
namespace Go.Proofs.Yteaclldklaocmaa
open Go
theorem cl_mayEnter : Try.prog.mayEnter = true := by kernel_rfl
end Go.Proofs.Yteaclldklaocmaa
