/- Views of what may only be read, and strings that are cut. Plain lemmas over any program. -/
import Derived.Test.YthmigddkloimaaaGreatDoorLibL
import Derived.Laws.Strings2
import Derived.Laws.Slices
namespace Go.VK
open Go.RowKit

section
variable {P : Program} {n : Nat} {f : Nat → Value} {w0 w : World} {M : List Nat} {L : List Ob} {R : List Ro} {o : Oper} {T e : TypeId} {x y : Operand}
theorem bstr_extract (a : List UInt8) (l h : Nat) : (bstr a).extract l h = bstr ((a.take h).drop l) := by
  have := ByteArray.extract_mk a l h
  unfold bstr
  rw [this]
  congr 2
  rw [List.drop_take]
theorem Y_sslice {lo hi : Operand} {a : List UInt8} {k k' : IntKind} {l h : Int} (hT : strB P T = true) (ho : o.op = .slice T x (some lo) (some hi) none) (hx : ev n f x = .string (bstr a)) (hl : ev n f lo = .int k l) (hh : ev n f hi = .int k' h) (h0 : 0 ≤ l ∧ l ≤ h ∧ h ≤ (a.length : Int)) :
    Y P n f w o (.string (bstr ((a.take h.toNat).drop l.toNat))) := by
  have hr := run_slice_string (P := P) w T (bstr a) k k' l h (strB_spec hT) h0.1 h0.2.1 (by rw [bstr_size]; exact h0.2.2)
  rw [bstr_extract] at hr
  have hr := (run_sliceAt_string (P := P) w T _ _ _ _ (strB_spec hT)).trans hr
  unfold Y execOp; rw [ho]; simp [hx, hl, hh, hr]
end
end Go.VK
