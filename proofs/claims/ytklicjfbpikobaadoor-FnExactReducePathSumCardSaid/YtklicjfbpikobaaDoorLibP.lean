/- Where what may be read comes from; slices of slices. Plain lemmas over any program. -/
import Derived.Test.YtklicjfbpikobaaDoorLibN
namespace Go.VK
open Go.RowKit

def Org (w0 : World) (M : List Nat) (R0 rows : List Ro) : Prop :=
  ∀ r ∈ rows, r.cs ≠ [] → ∀ a, r.B = some a → a.block ∈ M ∨ w0.heap.size ≤ a.block ∨ ∃ q ∈ R0, q.cs ≠ [] ∧ ∃ b, q.B = some b ∧ b.block = a.block
section
variable {w0 w w' : World} {M : List Nat} {L : List Ob} {R R0 rows rows' Rs Rc : List Ro}
theorem org_view {α : Type} {enc : α → List Value} {s : Nat} (hs : ∀ x, (enc x).length = s) {B : Option Addr} {l : List α} (h : Org w0 M R0 [⟨B, l.flatMap enc⟩]) {lo hi q : Nat} {B' : Option Addr} (hB : B' = sv B lo q s) {c : List α} (hc : c = (l.take hi).drop lo) : Org w0 M R0 [⟨B', c.flatMap enc⟩] := fun x hx hne a ha => by
  rw [List.mem_singleton] at hx; subst hx hB hc
  obtain ⟨a0, e1, e2⟩ := sv_block ha
  have hn : l.flatMap enc ≠ [] := fun e => hne (by
    show ((l.take hi).drop lo).flatMap enc = []
    rw [fm_view hs, e]; simp)
  have := h _ (List.mem_singleton.2 rfl) hn a0 e1
  rw [e2] at this
  exact this
theorem ST.orgOwn (hS : ST w0 M w L R) {i : Nat} {B : Option Addr} {T : TypeId} {cs : List Value} {m : Nat} (hi : L[i]? = some ⟨B, T, cs, m⟩) : Org w0 M R0 [⟨B, cs⟩] := fun x hx hne a ha => by
  rw [List.mem_singleton] at hx; subst hx
  have := hS.home _ (List.mem_of_getElem? hi) a.block (by simp only at ha; simp [Ob.blk, ha])
  rcases this with h | h
  · exact .inl h
  · exact .inr (.inl h)
theorem len_le {α : Type} {l : List α} {n c : Nat} (h : l.length = n) (h' : n ≤ c) : l.length ≤ c := by omega
end
abbrev Hd := Option Addr × Nat
end Go.VK
