/- Closed facts on the program. -/
import Derived.Test.YtjjhmbpannlkaaaGreatChecked
import Derived.Test.YtjjhmbpannlkaaaGreatRows
import Derived.JoinedOf
set_option maxRecDepth 100000
namespace Go.Proofs.YtjjhmbpannlkaaaGreat
open Go
theorem cl_lifted:(Rows.fnCliffordsRow.lifted==Tryz.prog.liftsFinal)=true:=by kernel_rfl
theorem cl_make:(Tryz.prog.make==some Rows.fnCliffordsRow.make)=true:=by kernel_rfl
end Go.Proofs.YtjjhmbpannlkaaaGreat
