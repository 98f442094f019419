/- A row's reading, opened: by program. -/
import Derived.Test.YtkmncijipedjaaaGreatDoorIsShortestFa
import Derived.Test.YtkmncijipedjaaaGreatDoorLibH
set_option linter.unusedVariables false
set_option maxRecDepth 100000
namespace Go.VK
open Go.RowKit
open Go.Proofs
theorem rd_Gate {H : Type} {enc : TypeId × Value → H} {w : World} {base : Nat} {spare : Nat → Bool} {held : Bool} {n : Nat} {cs : List Value} {x : DataW H × List MemPlace} (h : DataW.trod enc Tryz.prog w base spare held n 58 cs = some x) : ∃ (y : TGate), cs = eN0 y ∧ ok_Gate y := by
  have hl := rd_len k_fd_58_0_0_3 k_sz_58_3 h
  obtain ⟨n0, y0, h0⟩ := rd_fld k_fd_58_0_0_3 K1 h
  obtain ⟨a0, e0, o0⟩ := rd_int K41 h0
  obtain ⟨n1, y1, h1⟩ := rd_fld k_fd_58_1_1_3 K1 h
  obtain ⟨a1, e1, o1⟩ := rd_int K41 h1
  obtain ⟨n2, y2, h2⟩ := rd_fld k_fd_58_2_2_3 K1 h
  obtain ⟨a2, e2, o2⟩ := rd_int K41 h2
  exact ⟨⟨a0, a1, a2⟩, (seg_step (off := 0) e0 rfl (seg_step (off := 1) e1 rfl (seg_step (off := 2) e2 rfl (seg_end hl)))), ⟨o0, o1, o2⟩⟩
theorem rd_Circuit {H : Type} {enc : TypeId × Value → H} {w : World} {base : Nat} {spare : Nat → Bool} {held : Bool} {n : Nat} {cs : List Value} {x : DataW H × List MemPlace} (h : DataW.trod enc Tryz.prog w base spare held n 24 cs = some x) : ∃ (y : TCircuit) (B0 : Option Addr) (c0 : Nat), cs = [.int .i64 y.Qubits, .slice B0 y.Gates.length c0] ∧ ok_Circuit y ∧ (CF w B0 (y.Gates.flatMap eN0) ∧ (y.Gates.flatMap eN0 ≠ [] → ∀ a, B0 = some a → a.block < w.heap.size)) := by
  have hl := rd_len k_fd_24_0_0_3 K93 h
  obtain ⟨n0, y0, h0⟩ := rd_fld k_fd_24_0_0_3 K1 h
  obtain ⟨a0, e0, o0⟩ := rd_int K41 h0
  obtain ⟨n1, y1, h1⟩ := rd_fld k_fd_24_1_1_22 k_sz_22_1 h
  obtain ⟨B0, c0, a1, e1, o1, q0, g0⟩ := rd_slice (enc1 := eN0) (ok := ok_Gate) K80 k_sz_58_3 rfl enc_Gate_len (fun _ _ _ h => rd_Gate h) h1
  exact ⟨⟨a0, a1⟩, B0, c0, (seg_step (off := 0) e0 rfl (seg_step (off := 1) e1 rfl (seg_end hl))), ⟨o0, o1⟩, ⟨q0, g0⟩⟩
end Go.VK
