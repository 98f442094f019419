/- A row's reading, opened: by program. -/
import Derived.Test.YthmigddkloimaaaGreatDoorLOneFormFa
import Derived.Test.YthmigddkloimaaaGreatDoorLibH
set_option linter.unusedVariables false
set_option maxRecDepth 100000
namespace Go.VK
open Go.RowKit
open Go.Proofs
theorem rd_NormalForm {H : Type} {enc : TypeId × Value → H} {w : World} {base : Nat} {spare : Nat → Bool} {held : Bool} {n : Nat} {cs : List Value} {x : DataW H × List MemPlace} (h : DataW.trod enc Tryz.prog w base spare held n 23 cs = some x) : ∃ (y : TNormalForm), cs = enc_NormalForm y ∧ ok_NormalForm y := by
  have hl := rd_len K56 K30 h
  obtain ⟨n0, y0, h0⟩ := rd_fld K56 K24 h
  obtain ⟨a0, e0, o0⟩ := rd_str K42 h0
  obtain ⟨n1, y1, h1⟩ := rd_fld K94 K2 h
  obtain ⟨a1, e1, o1⟩ := rd_int K23 h1
  obtain ⟨n2, y2, h2⟩ := rd_fld K85 K2 h
  obtain ⟨a2, e2, o2⟩ := rd_int K23 h2
  exact ⟨⟨a0, a1, a2⟩, (seg_step (off := 0) e0 rfl (seg_step (off := 1) e1 rfl (seg_step (off := 2) e2 rfl (seg_end hl)))), ⟨o0, o1, o2⟩⟩
end Go.VK
