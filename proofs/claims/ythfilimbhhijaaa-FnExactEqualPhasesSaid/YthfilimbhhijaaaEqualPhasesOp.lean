/- A row's reading, opened: by program. -/
import Derived.Test.YthfilimbhhijaaaEqualPhasesFa
import Derived.Test.YthfilimbhhijaaaLibH
set_option linter.unusedVariables false
set_option maxRecDepth 100000
namespace Go.VK
open Go.RowKit
open Go.Proofs
theorem rd_Ring {H : Type} {enc : TypeId × Value → H} {w : World} {base : Nat} {spare : Nat → Bool} {held : Bool} {n : Nat} {cs : List Value} {x : DataW H × List MemPlace} (h : DataW.trod enc Try.prog w base spare held n 156 cs = some x) : ∃ (y : TRing), cs = enc_Ring y ∧ ok_Ring y := by
  have hl := rd_len k_fd_156_0_0_3 k_sz_156_4 h
  obtain ⟨n0, y0, h0⟩ := rd_fld k_fd_156_0_0_3 k_sz_3_1 h
  obtain ⟨a0, e0, o0⟩ := rd_int k_int_3_i64 h0
  obtain ⟨n1, y1, h1⟩ := rd_fld k_fd_156_1_1_3 k_sz_3_1 h
  obtain ⟨a1, e1, o1⟩ := rd_int k_int_3_i64 h1
  obtain ⟨n2, y2, h2⟩ := rd_fld k_fd_156_2_2_3 k_sz_3_1 h
  obtain ⟨a2, e2, o2⟩ := rd_int k_int_3_i64 h2
  obtain ⟨n3, y3, h3⟩ := rd_fld k_fd_156_3_3_3 k_sz_3_1 h
  obtain ⟨a3, e3, o3⟩ := rd_int k_int_3_i64 h3
  exact ⟨⟨a0, a1, a2, a3⟩, (seg_step (off := 0) e0 rfl (seg_step (off := 1) e1 rfl (seg_step (off := 2) e2 rfl (seg_step (off := 3) e3 rfl (seg_end hl))))), ⟨o0, o1, o2, o3⟩⟩
theorem rd_Dyadic {H : Type} {enc : TypeId × Value → H} {w : World} {base : Nat} {spare : Nat → Bool} {held : Bool} {n : Nat} {cs : List Value} {x : DataW H × List MemPlace} (h : DataW.trod enc Try.prog w base spare held n 158 cs = some x) : ∃ (y : TDyadic), cs = enc_Dyadic y ∧ ok_Dyadic y := by
  have hl := rd_len k_fd_158_0_0_156 k_sz_158_5 h
  obtain ⟨n0, y0, h0⟩ := rd_fld k_fd_158_0_0_156 k_sz_156_4 h
  obtain ⟨a0, e0, o0⟩ := rd_Ring h0
  obtain ⟨n1, y1, h1⟩ := rd_fld k_fd_158_1_4_3 k_sz_3_1 h
  obtain ⟨a1, e1, o1⟩ := rd_int k_int_3_i64 h1
  exact ⟨⟨a0, a1⟩, (seg_step (off := 0) e0 rfl (seg_step (off := 4) e1 rfl (seg_end hl))), ⟨o0, o1⟩⟩
theorem rd_Bloch {H : Type} {enc : TypeId × Value → H} {w : World} {base : Nat} {spare : Nat → Bool} {held : Bool} {n : Nat} {cs : List Value} {x : DataW H × List MemPlace} (h : DataW.trod enc Try.prog w base spare held n 24 cs = some x) : ∃ (y : TBloch) (B0 : Option Addr) (c0 : Nat), cs = [.slice B0 y.Cells.length c0] ∧ ok_Bloch y ∧ (CF w B0 (y.Cells.flatMap enc_Dyadic) ∧ (y.Cells.flatMap enc_Dyadic ≠ [] → ∀ a, B0 = some a → a.block < w.heap.size)) := by
  have hl := rd_len k_fd_24_0_0_22 k_sz_24_1 h
  obtain ⟨n0, y0, h0⟩ := rd_fld k_fd_24_0_0_22 k_sz_22_1 h
  obtain ⟨B0, c0, a0, e0, o0, q0, g0⟩ := rd_slice (enc1 := enc_Dyadic) (ok := ok_Dyadic) k_sl_22_158 k_sz_158_5 rfl enc_Dyadic_len (fun _ _ _ h => rd_Dyadic h) h0
  exact ⟨⟨a0⟩, B0, c0, (seg_step (off := 0) e0 rfl (seg_end hl)), o0, ⟨q0, g0⟩⟩
theorem rd_Term {H : Type} {enc : TypeId × Value → H} {w : World} {base : Nat} {spare : Nat → Bool} {held : Bool} {n : Nat} {cs : List Value} {x : DataW H × List MemPlace} (h : DataW.trod enc Try.prog w base spare held n 167 cs = some x) : ∃ (y : TTerm), cs = enc_Term y ∧ ok_Term y := by
  have hl := rd_len k_fd_167_0_0_3 k_sz_167_2 h
  obtain ⟨n0, y0, h0⟩ := rd_fld k_fd_167_0_0_3 k_sz_3_1 h
  obtain ⟨a0, e0, o0⟩ := rd_int k_int_3_i64 h0
  obtain ⟨n1, y1, h1⟩ := rd_fld k_fd_167_1_1_3 k_sz_3_1 h
  obtain ⟨a1, e1, o1⟩ := rd_int k_int_3_i64 h1
  exact ⟨⟨a0, a1⟩, (seg_step (off := 0) e0 rfl (seg_step (off := 1) e1 rfl (seg_end hl))), ⟨o0, o1⟩⟩
theorem rd_Linear {H : Type} {enc : TypeId × Value → H} {w : World} {base : Nat} {spare : Nat → Bool} {held : Bool} {n : Nat} {cs : List Value} {x : DataW H × List MemPlace} (h : DataW.trod enc Try.prog w base spare held n 36 cs = some x) : ∃ (y : TLinear) (B0 : Option Addr) (c0 : Nat), cs = [.slice B0 y.Rows.length c0] ∧ ok_Linear y ∧ (CF w B0 (y.Rows.flatMap encI) ∧ (y.Rows.flatMap encI ≠ [] → ∀ a, B0 = some a → a.block < w.heap.size)) := by
  have hl := rd_len k_fd_36_0_0_34 k_sz_36_1 h
  obtain ⟨n0, y0, h0⟩ := rd_fld k_fd_36_0_0_34 k_sz_34_1 h
  obtain ⟨B0, c0, a0, e0, o0, q0, g0⟩ := rd_slice (enc1 := encI) (ok := I64) k_sl_34_3 k_sz_3_1 rfl encI_len (fun _ _ _ h => rd_int k_int_3_i64 h) h0
  exact ⟨⟨a0⟩, B0, c0, (seg_step (off := 0) e0 rfl (seg_end hl)), o0, ⟨q0, g0⟩⟩
theorem rd_PhasePoly {H : Type} {enc : TypeId × Value → H} {w : World} {base : Nat} {spare : Nat → Bool} {held : Bool} {n : Nat} {cs : List Value} {x : DataW H × List MemPlace} (h : DataW.trod enc Try.prog w base spare held n 38 cs = some x) : ∃ (y : TPhasePoly) (B0 : Option Addr) (c0 : Nat) (B1 : Option Addr) (c1 : Nat), cs = [.int .i64 y.Qubits, .int .i64 y.Phase, .slice B0 y.Terms.length c0, .slice B1 y.Out.Rows.length c1] ∧ ok_PhasePoly y ∧ (CF w B0 (y.Terms.flatMap enc_Term) ∧ (y.Terms.flatMap enc_Term ≠ [] → ∀ a, B0 = some a → a.block < w.heap.size)) ∧ (CF w B1 (y.Out.Rows.flatMap encI) ∧ (y.Out.Rows.flatMap encI ≠ [] → ∀ a, B1 = some a → a.block < w.heap.size)) := by
  have hl := rd_len k_fd_38_0_0_3 k_sz_38_4 h
  obtain ⟨n0, y0, h0⟩ := rd_fld k_fd_38_0_0_3 k_sz_3_1 h
  obtain ⟨a0, e0, o0⟩ := rd_int k_int_3_i64 h0
  obtain ⟨n1, y1, h1⟩ := rd_fld k_fd_38_1_1_3 k_sz_3_1 h
  obtain ⟨a1, e1, o1⟩ := rd_int k_int_3_i64 h1
  obtain ⟨n2, y2, h2⟩ := rd_fld k_fd_38_2_2_33 k_sz_33_1 h
  obtain ⟨B0, c0, a2, e2, o2, q0, g0⟩ := rd_slice (enc1 := enc_Term) (ok := ok_Term) k_sl_33_167 k_sz_167_2 rfl enc_Term_len (fun _ _ _ h => rd_Term h) h2
  obtain ⟨n3, y3, h3⟩ := rd_fld k_fd_38_3_3_36 k_sz_36_1 h
  obtain ⟨a3, B1, c1, e3, o3, ⟨q1, g1⟩⟩ := rd_Linear h3
  exact ⟨⟨a0, a1, a2, a3⟩, B0, c0, B1, c1, (seg_step (off := 0) e0 rfl (seg_step (off := 1) e1 rfl (seg_step (off := 2) e2 rfl (seg_step (off := 3) e3 rfl (seg_end hl))))), ⟨o0, o1, o2, o3⟩, ⟨q0, g0⟩, ⟨q1, g1⟩⟩
theorem rd_Matrix {H : Type} {enc : TypeId × Value → H} {w : World} {base : Nat} {spare : Nat → Bool} {held : Bool} {n : Nat} {cs : List Value} {x : DataW H × List MemPlace} (h : DataW.trod enc Try.prog w base spare held n 58 cs = some x) : ∃ (y : TMatrix) (B0 : Option Addr) (c0 : Nat), cs = [.int .i64 y.Rows, .int .i64 y.Cols, .slice B0 y.Cells.length c0] ∧ ok_Matrix y ∧ (CF w B0 (y.Cells.flatMap enc_Dyadic) ∧ (y.Cells.flatMap enc_Dyadic ≠ [] → ∀ a, B0 = some a → a.block < w.heap.size)) := by
  have hl := rd_len k_fd_58_0_0_3 k_sz_58_3 h
  obtain ⟨n0, y0, h0⟩ := rd_fld k_fd_58_0_0_3 k_sz_3_1 h
  obtain ⟨a0, e0, o0⟩ := rd_int k_int_3_i64 h0
  obtain ⟨n1, y1, h1⟩ := rd_fld k_fd_58_1_1_3 k_sz_3_1 h
  obtain ⟨a1, e1, o1⟩ := rd_int k_int_3_i64 h1
  obtain ⟨n2, y2, h2⟩ := rd_fld k_fd_58_2_2_22 k_sz_22_1 h
  obtain ⟨B0, c0, a2, e2, o2, q0, g0⟩ := rd_slice (enc1 := enc_Dyadic) (ok := ok_Dyadic) k_sl_22_158 k_sz_158_5 rfl enc_Dyadic_len (fun _ _ _ h => rd_Dyadic h) h2
  exact ⟨⟨a0, a1, a2⟩, B0, c0, (seg_step (off := 0) e0 rfl (seg_step (off := 1) e1 rfl (seg_step (off := 2) e2 rfl (seg_end hl)))), ⟨o0, o1, o2⟩, ⟨q0, g0⟩⟩
theorem rd_Pauli {H : Type} {enc : TypeId × Value → H} {w : World} {base : Nat} {spare : Nat → Bool} {held : Bool} {n : Nat} {cs : List Value} {x : DataW H × List MemPlace} (h : DataW.trod enc Try.prog w base spare held n 69 cs = some x) : ∃ (y : TPauli), cs = enc_Pauli y ∧ ok_Pauli y := by
  have hl := rd_len k_fd_69_0_0_3 k_sz_69_3 h
  obtain ⟨n0, y0, h0⟩ := rd_fld k_fd_69_0_0_3 k_sz_3_1 h
  obtain ⟨a0, e0, o0⟩ := rd_int k_int_3_i64 h0
  obtain ⟨n1, y1, h1⟩ := rd_fld k_fd_69_1_1_3 k_sz_3_1 h
  obtain ⟨a1, e1, o1⟩ := rd_int k_int_3_i64 h1
  obtain ⟨n2, y2, h2⟩ := rd_fld k_fd_69_2_2_3 k_sz_3_1 h
  obtain ⟨a2, e2, o2⟩ := rd_int k_int_3_i64 h2
  exact ⟨⟨a0, a1, a2⟩, (seg_step (off := 0) e0 rfl (seg_step (off := 1) e1 rfl (seg_step (off := 2) e2 rfl (seg_end hl)))), ⟨o0, o1, o2⟩⟩
end Go.VK
