/- Closed facts on the program. -/
import Derived.Test.YtjjhmbpannlkaaaGreatChecked
import Derived.Test.YtjjhmbpannlkaaaGreatRows
import Derived.JoinedOf
set_option maxRecDepth 100000
namespace Go.Proofs.YtjjhmbpannlkaaaGreat
open Go
theorem cl_stopsHeard:Tryz.prog.stopsHeard=true:=by kernel_rfl
end Go.Proofs.YtjjhmbpannlkaaaGreat
