/- Views of what may only be read, and strings that are cut. Plain lemmas over any program. -/
import Derived.Test.YtkmncijipedjaaaGreatLibL
import Derived.Laws.Strings2
import Derived.Laws.Slices
namespace Go.VK
open Go.RowKit

section
variable {P : Program} {n : Nat} {f : Nat → Value} {w0 w : World} {M : List Nat} {L : List Ob} {R : List Ro} {o : Oper} {T e : TypeId} {x y : Operand}
theorem take_len {α : Type} {l : List α} {n h : Nat} (hn : l.length = n) (h2 : h ≤ n) : (l.take h).length = h := by rw [List.length_take]; omega
end
end Go.VK
