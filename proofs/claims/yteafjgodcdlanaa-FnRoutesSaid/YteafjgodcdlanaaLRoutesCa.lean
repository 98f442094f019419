/- Closed facts on the program: what the row names. -/
import Derived.Test.YteafjgodcdlanaaChecked
import Derived.Test.YteafjgodcdlanaaRows
import Derived.JoinedOf
set_option maxRecDepth 100000
namespace Go.Proofs.Yteafjgodcdlanaa
open Go
theorem cl_inPlace:(Rows.fnRoutesRow.inPlace==Try.prog.inPlace 3)=true:=by kernel_rfl
theorem cl_unfollowed:(Rows.fnRoutesRow.unfollowed==Try.prog.unfollowed 3)=true:=by kernel_rfl
theorem cl_recurses:(Rows.fnRoutesRow.recurses==Try.prog.recurses 3)=true:=by kernel_rfl
theorem cl_named:(Rows.fnRoutesRow.named==Try.prog.varsNamed 3)=true:=by kernel_rfl
end Go.Proofs.Yteafjgodcdlanaa
