/- Closed facts on the program: what the row names. -/
import Derived.Test.YteaclldklaocmaaChecked
import Derived.Test.YteaclldklaocmaaRows
import Derived.JoinedOf
set_option maxRecDepth 100000
namespace Go.Proofs.Yteaclldklaocmaa
open Go
theorem cl_inPlace : (Rows.fnExactReduceColumnRow.inPlace == Try.prog.inPlace 6) = true := by kernel_rfl
theorem cl_unfollowed : (Rows.fnExactReduceColumnRow.unfollowed == Try.prog.unfollowed 6) = true := by kernel_rfl
theorem cl_recurses : (Rows.fnExactReduceColumnRow.recurses == Try.prog.recurses 6) = true := by kernel_rfl
theorem cl_named : (Rows.fnExactReduceColumnRow.named == Try.prog.varsNamed 6) = true := by kernel_rfl
end Go.Proofs.Yteaclldklaocmaa
