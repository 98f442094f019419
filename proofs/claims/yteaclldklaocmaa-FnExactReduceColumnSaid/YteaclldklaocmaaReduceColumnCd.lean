/- Closed facts on the program. -/
import Derived.Test.YteaclldklaocmaaChecked
import Derived.Test.YteaclldklaocmaaRows
import Derived.JoinedOf
set_option maxRecDepth 100000
namespace Go.Proofs.Yteaclldklaocmaa
open Go
theorem cl_lifted : (Rows.fnExactReduceColumnRow.lifted == Try.prog.liftsFinal) = true := by kernel_rfl
theorem cl_make : (Try.prog.make == some Rows.fnExactReduceColumnRow.make) = true := by kernel_rfl
end Go.Proofs.Yteaclldklaocmaa
