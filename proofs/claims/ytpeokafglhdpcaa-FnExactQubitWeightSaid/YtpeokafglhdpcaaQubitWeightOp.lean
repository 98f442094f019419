/- A row's reading, opened: by program. -/
import Derived.Test.YtpeokafglhdpcaaQubitWeightFa
import Derived.Test.YtpeokafglhdpcaaLibH
set_option linter.unusedVariables false
set_option maxRecDepth 100000
namespace Go.VK
open Go.RowKit
open Go.Proofs
theorem rd_TwoLevel {H : Type} {enc : TypeId × Value → H} {w : World} {base : Nat} {spare : Nat → Bool} {held : Bool} {n : Nat} {cs : List Value} {x : DataW H × List MemPlace} (h : DataW.trod enc Try.prog w base spare held n 120 cs = some x) : ∃ (y : TTwoLevel), cs = enc_TwoLevel y ∧ ok_TwoLevel y := by
  have hl := rd_len k_fd_120_0_0_3 k_sz_120_4 h
  obtain ⟨n0, y0, h0⟩ := rd_fld k_fd_120_0_0_3 k_sz_3_1 h
  obtain ⟨a0, e0, o0⟩ := rd_int k_int_3_i64 h0
  obtain ⟨n1, y1, h1⟩ := rd_fld k_fd_120_1_1_3 k_sz_3_1 h
  obtain ⟨a1, e1, o1⟩ := rd_int k_int_3_i64 h1
  obtain ⟨n2, y2, h2⟩ := rd_fld k_fd_120_2_2_3 k_sz_3_1 h
  obtain ⟨a2, e2, o2⟩ := rd_int k_int_3_i64 h2
  obtain ⟨n3, y3, h3⟩ := rd_fld k_fd_120_3_3_3 k_sz_3_1 h
  obtain ⟨a3, e3, o3⟩ := rd_int k_int_3_i64 h3
  exact ⟨⟨a0, a1, a2, a3⟩, (seg_step (off := 0) e0 rfl (seg_step (off := 1) e1 rfl (seg_step (off := 2) e2 rfl (seg_step (off := 3) e3 rfl (seg_end hl))))), ⟨o0, o1, o2, o3⟩⟩
theorem rd_Ring {H : Type} {enc : TypeId × Value → H} {w : World} {base : Nat} {spare : Nat → Bool} {held : Bool} {n : Nat} {cs : List Value} {x : DataW H × List MemPlace} (h : DataW.trod enc Try.prog w base spare held n 213 cs = some x) : ∃ (y : TRing), cs = enc_Ring y ∧ ok_Ring y := by
  have hl := rd_len k_fd_213_0_0_3 k_sz_213_4 h
  obtain ⟨n0, y0, h0⟩ := rd_fld k_fd_213_0_0_3 k_sz_3_1 h
  obtain ⟨a0, e0, o0⟩ := rd_int k_int_3_i64 h0
  obtain ⟨n1, y1, h1⟩ := rd_fld k_fd_213_1_1_3 k_sz_3_1 h
  obtain ⟨a1, e1, o1⟩ := rd_int k_int_3_i64 h1
  obtain ⟨n2, y2, h2⟩ := rd_fld k_fd_213_2_2_3 k_sz_3_1 h
  obtain ⟨a2, e2, o2⟩ := rd_int k_int_3_i64 h2
  obtain ⟨n3, y3, h3⟩ := rd_fld k_fd_213_3_3_3 k_sz_3_1 h
  obtain ⟨a3, e3, o3⟩ := rd_int k_int_3_i64 h3
  exact ⟨⟨a0, a1, a2, a3⟩, (seg_step (off := 0) e0 rfl (seg_step (off := 1) e1 rfl (seg_step (off := 2) e2 rfl (seg_step (off := 3) e3 rfl (seg_end hl))))), ⟨o0, o1, o2, o3⟩⟩
theorem rd_Dyadic {H : Type} {enc : TypeId × Value → H} {w : World} {base : Nat} {spare : Nat → Bool} {held : Bool} {n : Nat} {cs : List Value} {x : DataW H × List MemPlace} (h : DataW.trod enc Try.prog w base spare held n 215 cs = some x) : ∃ (y : TDyadic), cs = enc_Dyadic y ∧ ok_Dyadic y := by
  have hl := rd_len k_fd_215_0_0_213 k_sz_215_5 h
  obtain ⟨n0, y0, h0⟩ := rd_fld k_fd_215_0_0_213 k_sz_213_4 h
  obtain ⟨a0, e0, o0⟩ := rd_Ring h0
  obtain ⟨n1, y1, h1⟩ := rd_fld k_fd_215_1_4_3 k_sz_3_1 h
  obtain ⟨a1, e1, o1⟩ := rd_int k_int_3_i64 h1
  exact ⟨⟨a0, a1⟩, (seg_step (off := 0) e0 rfl (seg_step (off := 4) e1 rfl (seg_end hl))), ⟨o0, o1⟩⟩
theorem rd_Matrix {H : Type} {enc : TypeId × Value → H} {w : World} {base : Nat} {spare : Nat → Bool} {held : Bool} {n : Nat} {cs : List Value} {x : DataW H × List MemPlace} (h : DataW.trod enc Try.prog w base spare held n 69 cs = some x) : ∃ (y : TMatrix) (B0 : Option Addr) (c0 : Nat), cs = [.int .i64 y.Rows, .int .i64 y.Cols, .slice B0 y.Cells.length c0] ∧ ok_Matrix y ∧ (CF w B0 (y.Cells.flatMap enc_Dyadic) ∧ (y.Cells.flatMap enc_Dyadic ≠ [] → ∀ a, B0 = some a → a.block < w.heap.size)) := by
  have hl := rd_len k_fd_69_0_0_3 k_sz_69_3 h
  obtain ⟨n0, y0, h0⟩ := rd_fld k_fd_69_0_0_3 k_sz_3_1 h
  obtain ⟨a0, e0, o0⟩ := rd_int k_int_3_i64 h0
  obtain ⟨n1, y1, h1⟩ := rd_fld k_fd_69_1_1_3 k_sz_3_1 h
  obtain ⟨a1, e1, o1⟩ := rd_int k_int_3_i64 h1
  obtain ⟨n2, y2, h2⟩ := rd_fld k_fd_69_2_2_67 k_sz_67_1 h
  obtain ⟨B0, c0, a2, e2, o2, q0, g0⟩ := rd_slice (enc1 := enc_Dyadic) (ok := ok_Dyadic) k_sl_67_215 k_sz_215_5 rfl enc_Dyadic_len (fun _ _ _ h => rd_Dyadic h) h2
  exact ⟨⟨a0, a1, a2⟩, B0, c0, (seg_step (off := 0) e0 rfl (seg_step (off := 1) e1 rfl (seg_step (off := 2) e2 rfl (seg_end hl)))), ⟨o0, o1, o2⟩, ⟨q0, g0⟩⟩
theorem rd_Gate {H : Type} {enc : TypeId × Value → H} {w : World} {base : Nat} {spare : Nat → Bool} {held : Bool} {n : Nat} {cs : List Value} {x : DataW H × List MemPlace} (h : DataW.trod enc Try.prog w base spare held n 201 cs = some x) : ∃ (y : TGate), cs = enc_Gate y ∧ ok_Gate y := by
  have hl := rd_len k_fd_201_0_0_3 k_sz_201_3 h
  obtain ⟨n0, y0, h0⟩ := rd_fld k_fd_201_0_0_3 k_sz_3_1 h
  obtain ⟨a0, e0, o0⟩ := rd_int k_int_3_i64 h0
  obtain ⟨n1, y1, h1⟩ := rd_fld k_fd_201_1_1_3 k_sz_3_1 h
  obtain ⟨a1, e1, o1⟩ := rd_int k_int_3_i64 h1
  obtain ⟨n2, y2, h2⟩ := rd_fld k_fd_201_2_2_3 k_sz_3_1 h
  obtain ⟨a2, e2, o2⟩ := rd_int k_int_3_i64 h2
  exact ⟨⟨a0, a1, a2⟩, (seg_step (off := 0) e0 rfl (seg_step (off := 1) e1 rfl (seg_step (off := 2) e2 rfl (seg_end hl)))), ⟨o0, o1, o2⟩⟩
theorem rd_Circuit {H : Type} {enc : TypeId × Value → H} {w : World} {base : Nat} {spare : Nat → Bool} {held : Bool} {n : Nat} {cs : List Value} {x : DataW H × List MemPlace} (h : DataW.trod enc Try.prog w base spare held n 41 cs = some x) : ∃ (y : TCircuit) (B0 : Option Addr) (c0 : Nat), cs = [.int .i64 y.Qubits, .slice B0 y.Gates.length c0] ∧ ok_Circuit y ∧ (CF w B0 (y.Gates.flatMap enc_Gate) ∧ (y.Gates.flatMap enc_Gate ≠ [] → ∀ a, B0 = some a → a.block < w.heap.size)) := by
  have hl := rd_len k_fd_41_0_0_3 k_sz_41_2 h
  obtain ⟨n0, y0, h0⟩ := rd_fld k_fd_41_0_0_3 k_sz_3_1 h
  obtain ⟨a0, e0, o0⟩ := rd_int k_int_3_i64 h0
  obtain ⟨n1, y1, h1⟩ := rd_fld k_fd_41_1_1_39 k_sz_39_1 h
  obtain ⟨B0, c0, a1, e1, o1, q0, g0⟩ := rd_slice (enc1 := enc_Gate) (ok := ok_Gate) k_sl_39_201 k_sz_201_3 rfl enc_Gate_len (fun _ _ _ h => rd_Gate h) h1
  exact ⟨⟨a0, a1⟩, B0, c0, (seg_step (off := 0) e0 rfl (seg_step (off := 1) e1 rfl (seg_end hl))), ⟨o0, o1⟩, ⟨q0, g0⟩⟩
end Go.VK
