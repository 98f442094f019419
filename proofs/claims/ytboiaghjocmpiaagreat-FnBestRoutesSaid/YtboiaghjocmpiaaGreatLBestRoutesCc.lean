/- Closed facts on the program. -/
import Derived.Test.YtboiaghjocmpiaaGreatChecked
import Derived.Test.YtboiaghjocmpiaaGreatRows
import Derived.JoinedOf
set_option maxRecDepth 100000
namespace Go.Proofs.YtboiaghjocmpiaaGreat
open Go
theorem cl_stopsHeard:Tryz.prog.stopsHeard=true:=by kernel_rfl
end Go.Proofs.YtboiaghjocmpiaaGreat
