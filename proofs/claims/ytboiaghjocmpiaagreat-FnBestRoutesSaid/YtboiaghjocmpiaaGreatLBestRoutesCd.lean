/- Closed facts on the program. -/
import Derived.Test.YtboiaghjocmpiaaGreatChecked
import Derived.Test.YtboiaghjocmpiaaGreatRows
import Derived.JoinedOf
set_option maxRecDepth 100000
namespace Go.Proofs.YtboiaghjocmpiaaGreat
open Go
theorem cl_lifted:(Rows.fnBestRoutesRow.lifted==Tryz.prog.liftsFinal)=true:=by kernel_rfl
theorem cl_make:(Tryz.prog.make==some Rows.fnBestRoutesRow.make)=true:=by kernel_rfl
end Go.Proofs.YtboiaghjocmpiaaGreat
