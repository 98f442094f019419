/- Strings: their operations, one lemma an operation. Plain lemmas over any program. -/
import Derived.Test.YtmonoeihfeikeaaGreatDoorLibJ
import Derived.Laws.Strings
import Derived.Laws.BytesString
import Derived.Laws.Concat
namespace Go.VK
open Go.RowKit

def bstr (l : List UInt8) : ByteArray := ⟨l.toArray⟩
def enc_u8 (x : Int) : List Value := [.int .u8 x]
theorem enc_u8_len (x : Int) : (enc_u8 x).length = 1 := rfl
def U8 (a : Int) : Prop := 0 ≤ a ∧ a ≤ 255
def encS (x : List UInt8) : List Value := [.string (bstr x)]
theorem encS_len (x : List UInt8) : (encS x).length = 1 := rfl
theorem encS_one (x : List UInt8) : one (encS x) = true := rfl
theorem bstr_size (l : List UInt8) : (bstr l).size = l.length := by simp [bstr, ByteArray.size]
def strB (P : Program) (T : TypeId) : Bool := match P.underlying T with | some .string => true | _ => false
theorem strB_spec {P : Program} {T : TypeId} (h : strB P T = true) : P.underlying T = some .string := by
  unfold strB at h; split at h
  · assumption
  · cases h
section
variable {P : Program} {n : Nat} {f : Nat → Value} {w : World} {o : Oper} {T T' : TypeId} {x y : Operand} {k : IntKind}
theorem Y_sadd {a b : List UInt8} (ho : o.op = .binOp .add T x y T') (hx : ev n f x = .string (bstr a)) (hy : ev n f y = .string (bstr b)) (h : a.length + b.length ≤ 1099511627776) : Y P n f w o (.string (bstr (a ++ b))) := by
  have hr := run_string_add_sum (P := P) w (bstr a) (bstr b) (by rw [bstr_size, bstr_size]; omega)
  rw [show bstr a ++ bstr b = bstr (a ++ b) from ByteArray.mk_append_mk a b] at hr
  unfold Y execOp; rw [ho]; simp [hx, hy, binOp, hr, eqGuard_at_string]
end
end Go.VK
