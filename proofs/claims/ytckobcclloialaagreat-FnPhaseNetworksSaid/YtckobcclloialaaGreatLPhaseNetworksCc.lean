/- Closed facts on the program. -/
import Derived.Test.YtckobcclloialaaGreatChecked
import Derived.Test.YtckobcclloialaaGreatRows
import Derived.JoinedOf
set_option maxRecDepth 100000
namespace Go.Proofs.YtckobcclloialaaGreat
open Go
theorem cl_stopsHeard:Tryz.prog.stopsHeard=true:=by kernel_rfl
end Go.Proofs.YtckobcclloialaaGreat
