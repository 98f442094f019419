/- Closed facts on the program: what the row names. -/
import Derived.Test.YthfilimbhhijaaaChecked
import Derived.Test.YthfilimbhhijaaaRows
import Derived.JoinedOf
set_option maxRecDepth 100000
namespace Go.Proofs.Ythfilimbhhijaaa
open Go
theorem cl_inPlace : (Rows.fnExactMonomialsOfRow.inPlace == Try.prog.inPlace 4) = true := by kernel_rfl
theorem cl_unfollowed : (Rows.fnExactMonomialsOfRow.unfollowed == Try.prog.unfollowed 4) = true := by kernel_rfl
theorem cl_recurses : (Rows.fnExactMonomialsOfRow.recurses == Try.prog.recurses 4) = true := by kernel_rfl
theorem cl_named : (Rows.fnExactMonomialsOfRow.named == Try.prog.varsNamed 4) = true := by kernel_rfl
end Go.Proofs.Ythfilimbhhijaaa
