/- Strings: their operations, one lemma an operation. Plain lemmas over any program. -/
import Derived.Test.YtklicjfbpikobaaDoorLibJ
import Derived.Laws.Strings
import Derived.Laws.BytesString
import Derived.Laws.Concat
namespace Go.VK
open Go.RowKit

def enc_u8 (x : Int) : List Value := [.int .u8 x]
theorem enc_u8_len (x : Int) : (enc_u8 x).length = 1 := rfl
section
variable {P : Program} {n : Nat} {f : Nat → Value} {w : World} {o : Oper} {T T' : TypeId} {x y : Operand} {k : IntKind}
theorem enc_u8_flat (l : List Int) : l.flatMap enc_u8 = l.map (Value.int .u8) := by
  induction l with
  | nil => rfl
  | cons a l ih => simp [List.flatMap_cons, enc_u8, ih]
end
end Go.VK
