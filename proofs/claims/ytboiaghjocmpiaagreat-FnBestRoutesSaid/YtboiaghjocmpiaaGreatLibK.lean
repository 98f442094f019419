/- Strings: their operations, one lemma an operation. Plain lemmas over any program. -/
import Derived.Test.YtboiaghjocmpiaaGreatLibJ
import Derived.Laws.Strings
import Derived.Laws.BytesString
import Derived.Laws.Concat
namespace Go.VK
open Go.RowKit

def enc_u8 (x:Int):List Value:=[.int .u8 x]
theorem enc_u8_len (x:Int):(enc_u8 x).length=1:=rfl
def U8 (a:Int):Prop:=0≤a∧a≤255
end Go.VK
