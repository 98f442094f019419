/- Closed facts on the program: what the row names. -/
import Derived.Test.YtckobcclloialaaGreatChecked
import Derived.Test.YtckobcclloialaaGreatRows
import Derived.JoinedOf
set_option maxRecDepth 100000
namespace Go.Proofs.YtckobcclloialaaGreat
open Go
theorem cl_inPlace:(Rows.fnPhaseNetworksRow.inPlace==Tryz.prog.inPlace 3)=true:=by kernel_rfl
theorem cl_unfollowed:(Rows.fnPhaseNetworksRow.unfollowed==Tryz.prog.unfollowed 3)=true:=by kernel_rfl
theorem cl_recurses:(Rows.fnPhaseNetworksRow.recurses==Tryz.prog.recurses 3)=true:=by kernel_rfl
theorem cl_named:(Rows.fnPhaseNetworksRow.named==Tryz.prog.varsNamed 3)=true:=by kernel_rfl
end Go.Proofs.YtckobcclloialaaGreat
