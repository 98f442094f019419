/- Closed facts on the program. -/
import Derived.Test.YtckobcclloialaaGreatChecked
import Derived.Test.YtckobcclloialaaGreatRows
import Derived.JoinedOf
set_option maxRecDepth 100000
namespace Go.Proofs.YtckobcclloialaaGreat
open Go
theorem cl_lifted:(Rows.fnPhaseNetworksRow.lifted==Tryz.prog.liftsFinal)=true:=by kernel_rfl
theorem cl_make:(Tryz.prog.make==some Rows.fnPhaseNetworksRow.make)=true:=by kernel_rfl
end Go.Proofs.YtckobcclloialaaGreat
