/- Closed facts on the program: what the row names. -/
import Derived.Test.YthfilimbhhijaaaChecked
import Derived.Test.YthfilimbhhijaaaRows
import Derived.JoinedOf
set_option maxRecDepth 100000
namespace Go.Proofs.Ythfilimbhhijaaa
open Go
theorem cl_inPlace : (Rows.fnExactEqualPhasesRow.inPlace == Try.prog.inPlace 5) = true := by kernel_rfl
theorem cl_unfollowed : (Rows.fnExactEqualPhasesRow.unfollowed == Try.prog.unfollowed 5) = true := by kernel_rfl
theorem cl_recurses : (Rows.fnExactEqualPhasesRow.recurses == Try.prog.recurses 5) = true := by kernel_rfl
theorem cl_named : (Rows.fnExactEqualPhasesRow.named == Try.prog.varsNamed 5) = true := by kernel_rfl
end Go.Proofs.Ythfilimbhhijaaa
