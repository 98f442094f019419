/- Closed facts on the program. -/
import Derived.Test.YthfilimbhhijaaaChecked
import Derived.Test.YthfilimbhhijaaaRows
import Derived.JoinedOf
set_option maxRecDepth 100000
namespace Go.Proofs.Ythfilimbhhijaaa
open Go
theorem cl_lifted : (Rows.fnExactEqualPhasesRow.lifted == Try.prog.liftsFinal) = true := by kernel_rfl
theorem cl_make : (Try.prog.make == some Rows.fnExactEqualPhasesRow.make) = true := by kernel_rfl
end Go.Proofs.Ythfilimbhhijaaa
