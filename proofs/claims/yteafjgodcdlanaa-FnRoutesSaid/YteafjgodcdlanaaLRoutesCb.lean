/- A closed fact on the program. -/
import Derived.Test.YteafjgodcdlanaaChecked
import Derived.Test.YteafjgodcdlanaaRows
import Derived.JoinedOf
set_option maxRecDepth 100000
namespace Go.Proofs.Yteafjgodcdlanaa
open Go
theorem cl_mayEnter:Try.prog.mayEnter=true:=by kernel_rfl
end Go.Proofs.Yteafjgodcdlanaa
