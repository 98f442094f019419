/- Closed facts on the program. -/
import Derived.Test.YtchihdcajdocgaaChecked
import Derived.Test.YtchihdcajdocgaaRows
import Derived.JoinedOf
set_option maxRecDepth 100000
namespace Go.Proofs.Ytchihdcajdocgaa
open Go
theorem cl_stopsHeard : Try.prog.stopsHeard = true := by kernel_rfl
end Go.Proofs.Ytchihdcajdocgaa
