/- Closed facts on the program: what the row names. -/
import Derived.Test.YthfilimbhhijaaaChecked
import Derived.Test.YthfilimbhhijaaaRows
import Derived.JoinedOf
set_option maxRecDepth 100000
namespace Go.Proofs.Ythfilimbhhijaaa
open Go
theorem cl_inPlace : (Rows.fnExactInvertPhaseRow.inPlace == Try.prog.inPlace 13) = true := by kernel_rfl
theorem cl_unfollowed : (Rows.fnExactInvertPhaseRow.unfollowed == Try.prog.unfollowed 13) = true := by kernel_rfl
theorem cl_recurses : (Rows.fnExactInvertPhaseRow.recurses == Try.prog.recurses 13) = true := by kernel_rfl
theorem cl_named : (Rows.fnExactInvertPhaseRow.named == Try.prog.varsNamed 13) = true := by kernel_rfl
end Go.Proofs.Ythfilimbhhijaaa
