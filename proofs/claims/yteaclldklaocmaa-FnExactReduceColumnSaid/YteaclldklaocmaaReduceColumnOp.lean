/- A row's reading, opened: by program. -/
import Derived.Test.YteaclldklaocmaaReduceColumnFa
import Derived.Test.YteaclldklaocmaaLibH
set_option linter.unusedVariables false
set_option maxRecDepth 100000
namespace Go.VK
open Go.RowKit
open Go.Proofs
theorem rd_Ring {H : Type} {enc : TypeId × Value → H} {w : World} {base : Nat} {spare : Nat → Bool} {held : Bool} {n : Nat} {cs : List Value} {x : DataW H × List MemPlace} (h : DataW.trod enc Try.prog w base spare held n 201 cs = some x) : ∃ (y : TRing), cs = enc_Ring y ∧ ok_Ring y := by
  have hl := rd_len k_fd_201_0_0_3 k_sz_201_4 h
  obtain ⟨n0, y0, h0⟩ := rd_fld k_fd_201_0_0_3 k_sz_3_1 h
  obtain ⟨a0, e0, o0⟩ := rd_int k_int_3_i64 h0
  obtain ⟨n1, y1, h1⟩ := rd_fld k_fd_201_1_1_3 k_sz_3_1 h
  obtain ⟨a1, e1, o1⟩ := rd_int k_int_3_i64 h1
  obtain ⟨n2, y2, h2⟩ := rd_fld k_fd_201_2_2_3 k_sz_3_1 h
  obtain ⟨a2, e2, o2⟩ := rd_int k_int_3_i64 h2
  obtain ⟨n3, y3, h3⟩ := rd_fld k_fd_201_3_3_3 k_sz_3_1 h
  obtain ⟨a3, e3, o3⟩ := rd_int k_int_3_i64 h3
  exact ⟨⟨a0, a1, a2, a3⟩, (seg_step (off := 0) e0 rfl (seg_step (off := 1) e1 rfl (seg_step (off := 2) e2 rfl (seg_step (off := 3) e3 rfl (seg_end hl))))), ⟨o0, o1, o2, o3⟩⟩
theorem rd_Dyadic {H : Type} {enc : TypeId × Value → H} {w : World} {base : Nat} {spare : Nat → Bool} {held : Bool} {n : Nat} {cs : List Value} {x : DataW H × List MemPlace} (h : DataW.trod enc Try.prog w base spare held n 203 cs = some x) : ∃ (y : TDyadic), cs = eN0 y ∧ ok_Dyadic y := by
  have hl := rd_len k_fd_203_0_0_201 k_sz_203_5 h
  obtain ⟨n0, y0, h0⟩ := rd_fld k_fd_203_0_0_201 k_sz_201_4 h
  obtain ⟨a0, e0, o0⟩ := rd_Ring h0
  obtain ⟨n1, y1, h1⟩ := rd_fld k_fd_203_1_4_3 k_sz_3_1 h
  obtain ⟨a1, e1, o1⟩ := rd_int k_int_3_i64 h1
  exact ⟨⟨a0, a1⟩, (seg_step (off := 0) e0 rfl (seg_step (off := 4) e1 rfl (seg_end hl))), ⟨o0, o1⟩⟩
theorem rd_Matrix {H : Type} {enc : TypeId × Value → H} {w : World} {base : Nat} {spare : Nat → Bool} {held : Bool} {n : Nat} {cs : List Value} {x : DataW H × List MemPlace} (h : DataW.trod enc Try.prog w base spare held n 68 cs = some x) : ∃ (y : TMatrix) (B0 : Option Addr) (c0 : Nat), cs = [.int .i64 y.Rows, .int .i64 y.Cols, .slice B0 y.Cells.length c0] ∧ ok_Matrix y ∧ (CF w B0 (y.Cells.flatMap eN0) ∧ (y.Cells.flatMap eN0 ≠ [] → ∀ a, B0 = some a → a.block < w.heap.size)) := by
  have hl := rd_len k_fd_68_0_0_3 k_sz_68_3 h
  obtain ⟨n0, y0, h0⟩ := rd_fld k_fd_68_0_0_3 k_sz_3_1 h
  obtain ⟨a0, e0, o0⟩ := rd_int k_int_3_i64 h0
  obtain ⟨n1, y1, h1⟩ := rd_fld k_fd_68_1_1_3 k_sz_3_1 h
  obtain ⟨a1, e1, o1⟩ := rd_int k_int_3_i64 h1
  obtain ⟨n2, y2, h2⟩ := rd_fld k_fd_68_2_2_66 k_sz_66_1 h
  obtain ⟨B0, c0, a2, e2, o2, q0, g0⟩ := rd_slice (enc1 := eN0) (ok := ok_Dyadic) k_sl_66_203 k_sz_203_5 rfl eN1 (fun _ _ _ h => rd_Dyadic h) h2
  exact ⟨⟨a0, a1, a2⟩, B0, c0, (seg_step (off := 0) e0 rfl (seg_step (off := 1) e1 rfl (seg_step (off := 2) e2 rfl (seg_end hl)))), ⟨o0, o1, o2⟩, ⟨q0, g0⟩⟩
end Go.VK
