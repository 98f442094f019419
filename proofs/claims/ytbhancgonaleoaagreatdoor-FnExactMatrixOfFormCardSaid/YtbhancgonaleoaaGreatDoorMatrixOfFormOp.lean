/- A row's reading, opened: by program. -/
import Derived.Test.YtbhancgonaleoaaGreatDoorMatrixOfFormFa
import Derived.Test.YtbhancgonaleoaaGreatDoorLibH
set_option linter.unusedVariables false
set_option maxRecDepth 100000
namespace Go.VK
open Go.RowKit
open Go.Proofs
theorem rd_Ring {H : Type} {enc : TypeId × Value → H} {w : World} {base : Nat} {spare : Nat → Bool} {held : Bool} {n : Nat} {cs : List Value} {x : DataW H × List MemPlace} (h : DataW.trod enc Tryz.prog w base spare held n 94 cs = some x) : ∃ (y : TRing), cs = enc_Ring y ∧ ok_Ring y := by
  have hl := rd_len k_fd_94_0_0_3 k_sz_94_4 h
  obtain ⟨n0, y0, h0⟩ := rd_fld k_fd_94_0_0_3 k_sz_3_1 h
  obtain ⟨a0, e0, o0⟩ := rd_int k_int_3_i64 h0
  obtain ⟨n1, y1, h1⟩ := rd_fld k_fd_94_1_1_3 k_sz_3_1 h
  obtain ⟨a1, e1, o1⟩ := rd_int k_int_3_i64 h1
  obtain ⟨n2, y2, h2⟩ := rd_fld k_fd_94_2_2_3 k_sz_3_1 h
  obtain ⟨a2, e2, o2⟩ := rd_int k_int_3_i64 h2
  obtain ⟨n3, y3, h3⟩ := rd_fld k_fd_94_3_3_3 k_sz_3_1 h
  obtain ⟨a3, e3, o3⟩ := rd_int k_int_3_i64 h3
  exact ⟨⟨a0, a1, a2, a3⟩, (seg_step (off := 0) e0 rfl (seg_step (off := 1) e1 rfl (seg_step (off := 2) e2 rfl (seg_step (off := 3) e3 rfl (seg_end hl))))), ⟨o0, o1, o2, o3⟩⟩
theorem rd_Dyadic {H : Type} {enc : TypeId × Value → H} {w : World} {base : Nat} {spare : Nat → Bool} {held : Bool} {n : Nat} {cs : List Value} {x : DataW H × List MemPlace} (h : DataW.trod enc Tryz.prog w base spare held n 96 cs = some x) : ∃ (y : TDyadic), cs = eN0 y ∧ ok_Dyadic y := by
  have hl := rd_len k_fd_96_0_0_94 k_sz_96_5 h
  obtain ⟨n0, y0, h0⟩ := rd_fld k_fd_96_0_0_94 k_sz_94_4 h
  obtain ⟨a0, e0, o0⟩ := rd_Ring h0
  obtain ⟨n1, y1, h1⟩ := rd_fld k_fd_96_1_4_3 k_sz_3_1 h
  obtain ⟨a1, e1, o1⟩ := rd_int k_int_3_i64 h1
  exact ⟨⟨a0, a1⟩, (seg_step (off := 0) e0 rfl (seg_step (off := 4) e1 rfl (seg_end hl))), ⟨o0, o1⟩⟩
theorem rd_Bloch {H : Type} {enc : TypeId × Value → H} {w : World} {base : Nat} {spare : Nat → Bool} {held : Bool} {n : Nat} {cs : List Value} {x : DataW H × List MemPlace} (h : DataW.trod enc Tryz.prog w base spare held n 24 cs = some x) : ∃ (y : TBloch) (B0 : Option Addr) (c0 : Nat), cs = [.slice B0 y.Cells.length c0] ∧ ok_Bloch y ∧ (CF w B0 (y.Cells.flatMap eN0) ∧ (y.Cells.flatMap eN0 ≠ [] → ∀ a, B0 = some a → a.block < w.heap.size)) := by
  have hl := rd_len k_fd_24_0_0_22 k_sz_24_1 h
  obtain ⟨n0, y0, h0⟩ := rd_fld k_fd_24_0_0_22 k_sz_22_1 h
  obtain ⟨B0, c0, a0, e0, o0, q0, g0⟩ := rd_slice (enc1 := eN0) (ok := ok_Dyadic) k_sl_22_96 k_sz_96_5 rfl eN2 (fun _ _ _ h => rd_Dyadic h) h0
  exact ⟨⟨a0⟩, B0, c0, (seg_step (off := 0) e0 rfl (seg_end hl)), o0, ⟨q0, g0⟩⟩
theorem rd_NormalForm {H : Type} {enc : TypeId × Value → H} {w : World} {base : Nat} {spare : Nat → Bool} {held : Bool} {n : Nat} {cs : List Value} {x : DataW H × List MemPlace} (h : DataW.trod enc Tryz.prog w base spare held n 35 cs = some x) : ∃ (y : TNormalForm), cs = enc_NormalForm y ∧ ok_NormalForm y := by
  have hl := rd_len k_fd_35_0_0_9 k_sz_35_3 h
  obtain ⟨n0, y0, h0⟩ := rd_fld k_fd_35_0_0_9 k_sz_9_1 h
  obtain ⟨a0, e0, o0⟩ := rd_str k_str_9 h0
  obtain ⟨n1, y1, h1⟩ := rd_fld k_fd_35_1_1_3 k_sz_3_1 h
  obtain ⟨a1, e1, o1⟩ := rd_int k_int_3_i64 h1
  obtain ⟨n2, y2, h2⟩ := rd_fld k_fd_35_2_2_3 k_sz_3_1 h
  obtain ⟨a2, e2, o2⟩ := rd_int k_int_3_i64 h2
  exact ⟨⟨a0, a1, a2⟩, (seg_step (off := 0) e0 rfl (seg_step (off := 1) e1 rfl (seg_step (off := 2) e2 rfl (seg_end hl)))), ⟨o0, o1, o2⟩⟩
end Go.VK
