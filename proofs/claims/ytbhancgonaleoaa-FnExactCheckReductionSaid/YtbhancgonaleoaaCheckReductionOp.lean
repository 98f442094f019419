/- A row's reading, opened: by program. -/
import Derived.Test.YtbhancgonaleoaaCheckReductionFa
import Derived.Test.YtbhancgonaleoaaLibH
set_option linter.unusedVariables false
set_option maxRecDepth 100000
namespace Go.VK
open Go.RowKit
open Go.Proofs
theorem rd_Gate {H : Type} {enc : TypeId × Value → H} {w : World} {base : Nat} {spare : Nat → Bool} {held : Bool} {n : Nat} {cs : List Value} {x : DataW H × List MemPlace} (h : DataW.trod enc Try.prog w base spare held n 119 cs = some x) : ∃ (y : TGate), cs = enc_Gate y ∧ ok_Gate y := by
  have hl := rd_len k_fd_119_0_0_3 k_sz_119_3 h
  obtain ⟨n0, y0, h0⟩ := rd_fld k_fd_119_0_0_3 k_sz_3_1 h
  obtain ⟨a0, e0, o0⟩ := rd_int k_int_3_i64 h0
  obtain ⟨n1, y1, h1⟩ := rd_fld k_fd_119_1_1_3 k_sz_3_1 h
  obtain ⟨a1, e1, o1⟩ := rd_int k_int_3_i64 h1
  obtain ⟨n2, y2, h2⟩ := rd_fld k_fd_119_2_2_3 k_sz_3_1 h
  obtain ⟨a2, e2, o2⟩ := rd_int k_int_3_i64 h2
  exact ⟨⟨a0, a1, a2⟩, (seg_step (off := 0) e0 rfl (seg_step (off := 1) e1 rfl (seg_step (off := 2) e2 rfl (seg_end hl)))), ⟨o0, o1, o2⟩⟩
theorem rd_Circuit {H : Type} {enc : TypeId × Value → H} {w : World} {base : Nat} {spare : Nat → Bool} {held : Bool} {n : Nat} {cs : List Value} {x : DataW H × List MemPlace} (h : DataW.trod enc Try.prog w base spare held n 24 cs = some x) : ∃ (y : TCircuit) (B0 : Option Addr) (c0 : Nat), cs = [.int .i64 y.Qubits, .slice B0 y.Gates.length c0] ∧ ok_Circuit y ∧ (CF w B0 (y.Gates.flatMap enc_Gate) ∧ (y.Gates.flatMap enc_Gate ≠ [] → ∀ a, B0 = some a → a.block < w.heap.size)) := by
  have hl := rd_len k_fd_24_0_0_3 k_sz_24_2 h
  obtain ⟨n0, y0, h0⟩ := rd_fld k_fd_24_0_0_3 k_sz_3_1 h
  obtain ⟨a0, e0, o0⟩ := rd_int k_int_3_i64 h0
  obtain ⟨n1, y1, h1⟩ := rd_fld k_fd_24_1_1_22 k_sz_22_1 h
  obtain ⟨B0, c0, a1, e1, o1, q0, g0⟩ := rd_slice (enc1 := enc_Gate) (ok := ok_Gate) k_sl_22_119 k_sz_119_3 rfl enc_Gate_len (fun _ _ _ h => rd_Gate h) h1
  exact ⟨⟨a0, a1⟩, B0, c0, (seg_step (off := 0) e0 rfl (seg_step (off := 1) e1 rfl (seg_end hl))), ⟨o0, o1⟩, ⟨q0, g0⟩⟩
theorem rd_Term {H : Type} {enc : TypeId × Value → H} {w : World} {base : Nat} {spare : Nat → Bool} {held : Bool} {n : Nat} {cs : List Value} {x : DataW H × List MemPlace} (h : DataW.trod enc Try.prog w base spare held n 137 cs = some x) : ∃ (y : TTerm), cs = enc_Term y ∧ ok_Term y := by
  have hl := rd_len k_fd_137_0_0_3 k_sz_137_2 h
  obtain ⟨n0, y0, h0⟩ := rd_fld k_fd_137_0_0_3 k_sz_3_1 h
  obtain ⟨a0, e0, o0⟩ := rd_int k_int_3_i64 h0
  obtain ⟨n1, y1, h1⟩ := rd_fld k_fd_137_1_1_3 k_sz_3_1 h
  obtain ⟨a1, e1, o1⟩ := rd_int k_int_3_i64 h1
  exact ⟨⟨a0, a1⟩, (seg_step (off := 0) e0 rfl (seg_step (off := 1) e1 rfl (seg_end hl))), ⟨o0, o1⟩⟩
theorem rd_Linear {H : Type} {enc : TypeId × Value → H} {w : World} {base : Nat} {spare : Nat → Bool} {held : Bool} {n : Nat} {cs : List Value} {x : DataW H × List MemPlace} (h : DataW.trod enc Try.prog w base spare held n 43 cs = some x) : ∃ (y : TLinear) (B0 : Option Addr) (c0 : Nat), cs = [.slice B0 y.Rows.length c0] ∧ ok_Linear y ∧ (CF w B0 (y.Rows.flatMap encI) ∧ (y.Rows.flatMap encI ≠ [] → ∀ a, B0 = some a → a.block < w.heap.size)) := by
  have hl := rd_len k_fd_43_0_0_41 k_sz_43_1 h
  obtain ⟨n0, y0, h0⟩ := rd_fld k_fd_43_0_0_41 k_sz_41_1 h
  obtain ⟨B0, c0, a0, e0, o0, q0, g0⟩ := rd_slice (enc1 := encI) (ok := I64) k_sl_41_3 k_sz_3_1 rfl encI_len (fun _ _ _ h => rd_int k_int_3_i64 h) h0
  exact ⟨⟨a0⟩, B0, c0, (seg_step (off := 0) e0 rfl (seg_end hl)), o0, ⟨q0, g0⟩⟩
theorem rd_PhasePoly {H : Type} {enc : TypeId × Value → H} {w : World} {base : Nat} {spare : Nat → Bool} {held : Bool} {n : Nat} {cs : List Value} {x : DataW H × List MemPlace} (h : DataW.trod enc Try.prog w base spare held n 45 cs = some x) : ∃ (y : TPhasePoly) (B0 : Option Addr) (c0 : Nat) (B1 : Option Addr) (c1 : Nat), cs = [.int .i64 y.Qubits, .int .i64 y.Phase, .slice B0 y.Terms.length c0, .slice B1 y.Out.Rows.length c1] ∧ ok_PhasePoly y ∧ (CF w B0 (y.Terms.flatMap enc_Term) ∧ (y.Terms.flatMap enc_Term ≠ [] → ∀ a, B0 = some a → a.block < w.heap.size)) ∧ (CF w B1 (y.Out.Rows.flatMap encI) ∧ (y.Out.Rows.flatMap encI ≠ [] → ∀ a, B1 = some a → a.block < w.heap.size)) := by
  have hl := rd_len k_fd_45_0_0_3 k_sz_45_4 h
  obtain ⟨n0, y0, h0⟩ := rd_fld k_fd_45_0_0_3 k_sz_3_1 h
  obtain ⟨a0, e0, o0⟩ := rd_int k_int_3_i64 h0
  obtain ⟨n1, y1, h1⟩ := rd_fld k_fd_45_1_1_3 k_sz_3_1 h
  obtain ⟨a1, e1, o1⟩ := rd_int k_int_3_i64 h1
  obtain ⟨n2, y2, h2⟩ := rd_fld k_fd_45_2_2_40 k_sz_40_1 h
  obtain ⟨B0, c0, a2, e2, o2, q0, g0⟩ := rd_slice (enc1 := enc_Term) (ok := ok_Term) k_sl_40_137 k_sz_137_2 rfl enc_Term_len (fun _ _ _ h => rd_Term h) h2
  obtain ⟨n3, y3, h3⟩ := rd_fld k_fd_45_3_3_43 k_sz_43_1 h
  obtain ⟨a3, B1, c1, e3, o3, ⟨q1, g1⟩⟩ := rd_Linear h3
  exact ⟨⟨a0, a1, a2, a3⟩, B0, c0, B1, c1, (seg_step (off := 0) e0 rfl (seg_step (off := 1) e1 rfl (seg_step (off := 2) e2 rfl (seg_step (off := 3) e3 rfl (seg_end hl))))), ⟨o0, o1, o2, o3⟩, ⟨q0, g0⟩, ⟨q1, g1⟩⟩
end Go.VK
