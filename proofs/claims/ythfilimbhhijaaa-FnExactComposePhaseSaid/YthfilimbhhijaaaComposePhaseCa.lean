/- Closed facts on the program: what the row names. -/
import Derived.Test.YthfilimbhhijaaaChecked
import Derived.Test.YthfilimbhhijaaaRows
import Derived.JoinedOf
set_option maxRecDepth 100000
namespace Go.Proofs.Ythfilimbhhijaaa
open Go
theorem cl_inPlace : (Rows.fnExactComposePhaseRow.inPlace == Try.prog.inPlace 6) = true := by kernel_rfl
theorem cl_unfollowed : (Rows.fnExactComposePhaseRow.unfollowed == Try.prog.unfollowed 6) = true := by kernel_rfl
theorem cl_recurses : (Rows.fnExactComposePhaseRow.recurses == Try.prog.recurses 6) = true := by kernel_rfl
theorem cl_named : (Rows.fnExactComposePhaseRow.named == Try.prog.varsNamed 6) = true := by kernel_rfl
end Go.Proofs.Ythfilimbhhijaaa
