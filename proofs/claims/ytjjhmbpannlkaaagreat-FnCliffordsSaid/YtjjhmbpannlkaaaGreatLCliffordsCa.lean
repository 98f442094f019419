/- Closed facts on the program: what the row names. -/
import Derived.Test.YtjjhmbpannlkaaaGreatChecked
import Derived.Test.YtjjhmbpannlkaaaGreatRows
import Derived.JoinedOf
set_option maxRecDepth 100000
namespace Go.Proofs.YtjjhmbpannlkaaaGreat
open Go
theorem cl_inPlace:(Rows.fnCliffordsRow.inPlace==Tryz.prog.inPlace 3)=true:=by kernel_rfl
theorem cl_unfollowed:(Rows.fnCliffordsRow.unfollowed==Tryz.prog.unfollowed 3)=true:=by kernel_rfl
theorem cl_recurses:(Rows.fnCliffordsRow.recurses==Tryz.prog.recurses 3)=true:=by kernel_rfl
theorem cl_named:(Rows.fnCliffordsRow.named==Tryz.prog.varsNamed 3)=true:=by kernel_rfl
end Go.Proofs.YtjjhmbpannlkaaaGreat
