/- A closed fact on the program. -/
import Derived.Test.YtklicjfbpikobaaDoorChecked
import Derived.Test.YtklicjfbpikobaaDoorRows
import Derived.JoinedOf
set_option maxRecDepth 100000
namespace Go.Proofs.YtklicjfbpikobaaDoor
open Go
theorem cl_mayEnter : Tryd.prog.mayEnter = true := by kernel_rfl
end Go.Proofs.YtklicjfbpikobaaDoor
