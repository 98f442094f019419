/- Closed facts on the program: what the row names. -/
import Derived.Test.YtgacclcoghlhmaaChecked
import Derived.Test.YtgacclcoghlhmaaRows
import Derived.JoinedOf
set_option maxRecDepth 100000
namespace Go.Proofs.Ytgacclcoghlhmaa
open Go
theorem cl_inPlace : (Rows.fnExactNormalizeCliffordRow.inPlace == Try.prog.inPlace 3) = true := by kernel_rfl
theorem cl_unfollowed : (Rows.fnExactNormalizeCliffordRow.unfollowed == Try.prog.unfollowed 3) = true := by kernel_rfl
theorem cl_recurses : (Rows.fnExactNormalizeCliffordRow.recurses == Try.prog.recurses 3) = true := by kernel_rfl
theorem cl_named : (Rows.fnExactNormalizeCliffordRow.named == Try.prog.varsNamed 3) = true := by kernel_rfl
end Go.Proofs.Ytgacclcoghlhmaa
