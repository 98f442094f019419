/- A closed fact on the program. -/
import Derived.Test.YteaclldklaocmaaGreatChecked
import Derived.Test.YteaclldklaocmaaGreatRows
import Derived.JoinedOf
set_option maxRecDepth 100000
namespace Go.Proofs.YteaclldklaocmaaGreat
open Go
theorem cl_mayEnter : Tryz.prog.mayEnter = true := by kernel_rfl
end Go.Proofs.YteaclldklaocmaaGreat
