/- Slices of slices; a row cut in place. Plain lemmas over any program. -/
import Derived.Test.YtgacclcoghlhmaaLibK
namespace Go.VK
open Go.RowKit

section
variable {P : Program} {n : Nat} {f : Nat → Value} {w0 w : World} {M : List Nat} {L : List Ob} {R : List Ro} {o : Oper} {T e : TypeId} {x y : Operand}
theorem ST.lencap (hS : ST w0 M w L R) {i : Nat} {B : Option Addr} {T : TypeId} {cs : List Value} {m n c s : Nat} (hi : L[i]? = some ⟨B, T, cs, m⟩) (hcs : cs.length = n * s) (hm : m = c * s) (hs0 : Nat.blt 0 s = true) : n ≤ c := by
  have hs0 := Nat.blt_eq.mp hs0
  rcases (hS.own _ (List.mem_of_getElem? hi)).ty rfl with ⟨_, h2, _⟩ | ⟨g, cur, _, _, h3, h4⟩
  · simp only at h2
    rw [h2] at hcs
    rcases Nat.mul_eq_zero.1 hcs.symm with h | h <;> omega
  · simp only at h3 h4
    have := h4.length_le
    simp only [Array.length_toList] at this
    rw [hcs, h3, hm] at this
    exact Nat.le_of_mul_le_mul_right this hs0
end
end Go.VK
namespace Go.VK
theorem sl_eqv {α : Type} {l : List α} {B : Option Addr} {n c : Nat} (h : l.length = n) : Value.slice B n c = Value.slice B l.length c := by rw [h]
end Go.VK
