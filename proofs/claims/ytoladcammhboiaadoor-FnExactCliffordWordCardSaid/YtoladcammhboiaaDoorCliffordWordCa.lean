/- Closed facts on the program: what the row names. -/
import Derived.Test.YtoladcammhboiaaDoorChecked
import Derived.Test.YtoladcammhboiaaDoorRows
import Derived.JoinedOf
set_option maxRecDepth 100000
namespace Go.Proofs.YtoladcammhboiaaDoor
open Go
theorem cl_inPlace : (Rows.fnExactCliffordWordRow.inPlace == Tryd.prog.inPlace 3) = true := by kernel_rfl
theorem cl_unfollowed : (Rows.fnExactCliffordWordRow.unfollowed == Tryd.prog.unfollowed 3) = true := by kernel_rfl
theorem cl_recurses : (Rows.fnExactCliffordWordRow.recurses == Tryd.prog.recurses 3) = true := by kernel_rfl
theorem cl_named : (Rows.fnExactCliffordWordRow.named == Tryd.prog.varsNamed 3) = true := by kernel_rfl
end Go.Proofs.YtoladcammhboiaaDoor
