/- Strings: their operations, one lemma an operation. Plain lemmas over any program. -/
import Derived.Test.YtjjhmbpannlkaaaGreatLibJ
import Derived.Laws.Strings
import Derived.Laws.BytesString
import Derived.Laws.Concat
namespace Go.VK
open Go.RowKit

def bstr (l:List UInt8):ByteArray:=⟨l.toArray⟩
def enc_u8 (x:Int):List Value:=[.int .u8 x]
theorem enc_u8_len (x:Int):(enc_u8 x).length=1:=rfl
def U8 (a:Int):Prop:=0≤a∧a≤255
theorem bstr_size (l:List UInt8):(bstr l).size=l.length:=by simp [bstr,ByteArray.size]
def strB (P:Program) (T:TypeId):Bool:=match P.underlying T with | some .string=>true | _=>false
theorem strB_spec {P:Program} {T:TypeId} (h:strB P T=true):P.underlying T=some .string:=by
  unfold strB at h; split at h
  · assumption
  · cases h
section
variable {P:Program} {n:Nat} {f:Nat→Value} {w:World} {o:Oper} {T T':TypeId} {x y:Operand} {k:IntKind}
theorem Y_sidx {a:List UInt8} {i:Int} {b:UInt8} (hT:strB P T=true) (ho:o.op=.index T x y) (hx:ev n f x=.string (bstr a)) (hy:ev n f y=.int k i) (h:getI a i=some b):Y P n f w o (.int .u8 b.toNat):=by
  have h0:=getI_nn h
  have h1:=getI_lt h
  have hr:=run_index_string (P:=P) w T (bstr a) k i (strB_spec hT)
  rw [dif_pos ⟨h0,by rw [bstr_size]; omega⟩] at hr
  have hb:((bstr a)[i.toNat]'(by rw [bstr_size]; exact h1))=b:=by
    have h2:=getI_some h
    rw [List.getElem?_eq_getElem h1] at h2
    have:=Option.some.inj h2
    rw [← this]
    rfl
  rw [hb] at hr
  unfold Y execOp; rw [ho]
  simp only [hx,hy]
  simp [hr]
end
end Go.VK
