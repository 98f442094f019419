/- Closed facts on the program. -/
import Derived.Test.YteafjgodcdlanaaChecked
import Derived.Test.YteafjgodcdlanaaRows
import Derived.JoinedOf
set_option maxRecDepth 100000
namespace Go.Proofs.Yteafjgodcdlanaa
open Go
theorem cl_lifted:(Rows.fnRoutesRow.lifted==Try.prog.liftsFinal)=true:=by kernel_rfl
theorem cl_make:(Try.prog.make==some Rows.fnRoutesRow.make)=true:=by kernel_rfl
end Go.Proofs.Yteafjgodcdlanaa
