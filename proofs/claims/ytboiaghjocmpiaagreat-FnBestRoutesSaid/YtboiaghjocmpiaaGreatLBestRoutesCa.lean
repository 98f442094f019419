/- Closed facts on the program: what the row names. -/
import Derived.Test.YtboiaghjocmpiaaGreatChecked
import Derived.Test.YtboiaghjocmpiaaGreatRows
import Derived.JoinedOf
set_option maxRecDepth 100000
namespace Go.Proofs.YtboiaghjocmpiaaGreat
open Go
theorem cl_inPlace:(Rows.fnBestRoutesRow.inPlace==Tryz.prog.inPlace 3)=true:=by kernel_rfl
theorem cl_unfollowed:(Rows.fnBestRoutesRow.unfollowed==Tryz.prog.unfollowed 3)=true:=by kernel_rfl
theorem cl_recurses:(Rows.fnBestRoutesRow.recurses==Tryz.prog.recurses 3)=true:=by kernel_rfl
theorem cl_named:(Rows.fnBestRoutesRow.named==Tryz.prog.varsNamed 3)=true:=by kernel_rfl
end Go.Proofs.YtboiaghjocmpiaaGreat
