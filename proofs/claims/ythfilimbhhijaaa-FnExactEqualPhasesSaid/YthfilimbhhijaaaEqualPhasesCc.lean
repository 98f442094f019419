/- Closed facts on the program. -/
import Derived.Test.YthfilimbhhijaaaChecked
import Derived.Test.YthfilimbhhijaaaRows
import Derived.JoinedOf
set_option maxRecDepth 100000
namespace Go.Proofs.Ythfilimbhhijaaa
open Go
theorem cl_stopsHeard : Try.prog.stopsHeard = true := by kernel_rfl
end Go.Proofs.Ythfilimbhhijaaa
