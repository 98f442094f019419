/- Closed facts on the program. -/
import Derived.Test.YtklicjfbpikobaaChecked
import Derived.Test.YtklicjfbpikobaaRows
import Derived.JoinedOf
set_option maxRecDepth 100000
namespace Go.Proofs.Ytklicjfbpikobaa
open Go
theorem cl_stopsHeard : Try.prog.stopsHeard = true := by kernel_rfl
end Go.Proofs.Ytklicjfbpikobaa
