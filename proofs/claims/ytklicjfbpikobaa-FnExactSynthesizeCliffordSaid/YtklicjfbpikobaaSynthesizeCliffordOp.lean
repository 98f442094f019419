/- A row's reading, opened: by program. -/
import Derived.Test.YtklicjfbpikobaaSynthesizeCliffordFa
import Derived.Test.YtklicjfbpikobaaLibH
set_option linter.unusedVariables false
set_option maxRecDepth 100000
namespace Go.VK
open Go.RowKit
open Go.Proofs
theorem rd_Pauli {H : Type} {enc : TypeId × Value → H} {w : World} {base : Nat} {spare : Nat → Bool} {held : Bool} {n : Nat} {cs : List Value} {x : DataW H × List MemPlace} (h : DataW.trod enc Try.prog w base spare held n 118 cs = some x) : ∃ (y : TPauli), cs = eN0 y ∧ ok_Pauli y := by
  have hl := rd_len k_fd_118_0_0_3 k_sz_118_3 h
  obtain ⟨n0, y0, h0⟩ := rd_fld k_fd_118_0_0_3 K3 h
  obtain ⟨a0, e0, o0⟩ := rd_int K68 h0
  obtain ⟨n1, y1, h1⟩ := rd_fld k_fd_118_1_1_3 K3 h
  obtain ⟨a1, e1, o1⟩ := rd_int K68 h1
  obtain ⟨n2, y2, h2⟩ := rd_fld k_fd_118_2_2_3 K3 h
  obtain ⟨a2, e2, o2⟩ := rd_int K68 h2
  exact ⟨⟨a0, a1, a2⟩, (seg_step (off := 0) e0 rfl (seg_step (off := 1) e1 rfl (seg_step (off := 2) e2 rfl (seg_end hl)))), ⟨o0, o1, o2⟩⟩
theorem rd_Tableau {H : Type} {enc : TypeId × Value → H} {w : World} {base : Nat} {spare : Nat → Bool} {held : Bool} {n : Nat} {cs : List Value} {x : DataW H × List MemPlace} (h : DataW.trod enc Try.prog w base spare held n 24 cs = some x) : ∃ (y : TTableau) (B0 : Option Addr) (c0 : Nat) (B1 : Option Addr) (c1 : Nat), cs = [.int .i64 y.Qubits, .slice B0 y.XImages.length c0, .slice B1 y.ZImages.length c1] ∧ ok_Tableau y ∧ (CF w B0 (y.XImages.flatMap eN0) ∧ (y.XImages.flatMap eN0 ≠ [] → ∀ a, B0 = some a → a.block < w.heap.size)) ∧ (CF w B1 (y.ZImages.flatMap eN0) ∧ (y.ZImages.flatMap eN0 ≠ [] → ∀ a, B1 = some a → a.block < w.heap.size)) := by
  have hl := rd_len k_fd_24_0_0_3 K62 h
  obtain ⟨n0, y0, h0⟩ := rd_fld k_fd_24_0_0_3 K3 h
  obtain ⟨a0, e0, o0⟩ := rd_int K68 h0
  obtain ⟨n1, y1, h1⟩ := rd_fld k_fd_24_1_1_22 K64 h
  obtain ⟨B0, c0, a1, e1, o1, q0, g0⟩ := rd_slice (enc1 := eN0) (ok := ok_Pauli) K63 k_sz_118_3 rfl eN1 (fun _ _ _ h => rd_Pauli h) h1
  obtain ⟨n2, y2, h2⟩ := rd_fld k_fd_24_2_2_22 K64 h
  obtain ⟨B1, c1, a2, e2, o2, q1, g1⟩ := rd_slice (enc1 := eN0) (ok := ok_Pauli) K63 k_sz_118_3 rfl eN1 (fun _ _ _ h => rd_Pauli h) h2
  exact ⟨⟨a0, a1, a2⟩, B0, c0, B1, c1, (seg_step (off := 0) e0 rfl (seg_step (off := 1) e1 rfl (seg_step (off := 2) e2 rfl (seg_end hl)))), ⟨o0, o1, o2⟩, ⟨q0, g0⟩, ⟨q1, g1⟩⟩
theorem rd_Gate {H : Type} {enc : TypeId × Value → H} {w : World} {base : Nat} {spare : Nat → Bool} {held : Bool} {n : Nat} {cs : List Value} {x : DataW H × List MemPlace} (h : DataW.trod enc Try.prog w base spare held n 134 cs = some x) : ∃ (y : TGate), cs = eN2 y ∧ ok_Gate y := by
  have hl := rd_len k_fd_134_0_0_3 k_sz_134_3 h
  obtain ⟨n0, y0, h0⟩ := rd_fld k_fd_134_0_0_3 K3 h
  obtain ⟨a0, e0, o0⟩ := rd_int K68 h0
  obtain ⟨n1, y1, h1⟩ := rd_fld k_fd_134_1_1_3 K3 h
  obtain ⟨a1, e1, o1⟩ := rd_int K68 h1
  obtain ⟨n2, y2, h2⟩ := rd_fld k_fd_134_2_2_3 K3 h
  obtain ⟨a2, e2, o2⟩ := rd_int K68 h2
  exact ⟨⟨a0, a1, a2⟩, (seg_step (off := 0) e0 rfl (seg_step (off := 1) e1 rfl (seg_step (off := 2) e2 rfl (seg_end hl)))), ⟨o0, o1, o2⟩⟩
theorem rd_Circuit {H : Type} {enc : TypeId × Value → H} {w : World} {base : Nat} {spare : Nat → Bool} {held : Bool} {n : Nat} {cs : List Value} {x : DataW H × List MemPlace} (h : DataW.trod enc Try.prog w base spare held n 42 cs = some x) : ∃ (y : TCircuit) (B0 : Option Addr) (c0 : Nat), cs = [.int .i64 y.Qubits, .slice B0 y.Gates.length c0] ∧ ok_Circuit y ∧ (CF w B0 (y.Gates.flatMap eN2) ∧ (y.Gates.flatMap eN2 ≠ [] → ∀ a, B0 = some a → a.block < w.heap.size)) := by
  have hl := rd_len k_fd_42_0_0_3 k_sz_42_2 h
  obtain ⟨n0, y0, h0⟩ := rd_fld k_fd_42_0_0_3 K3 h
  obtain ⟨a0, e0, o0⟩ := rd_int K68 h0
  obtain ⟨n1, y1, h1⟩ := rd_fld k_fd_42_1_1_40 k_sz_40_1 h
  obtain ⟨B0, c0, a1, e1, o1, q0, g0⟩ := rd_slice (enc1 := eN2) (ok := ok_Gate) k_sl_40_134 k_sz_134_3 rfl eN4 (fun _ _ _ h => rd_Gate h) h1
  exact ⟨⟨a0, a1⟩, B0, c0, (seg_step (off := 0) e0 rfl (seg_step (off := 1) e1 rfl (seg_end hl))), ⟨o0, o1⟩, ⟨q0, g0⟩⟩
theorem rd_Term {H : Type} {enc : TypeId × Value → H} {w : World} {base : Nat} {spare : Nat → Bool} {held : Bool} {n : Nat} {cs : List Value} {x : DataW H × List MemPlace} (h : DataW.trod enc Try.prog w base spare held n 146 cs = some x) : ∃ (y : TTerm), cs = enc_Term y ∧ ok_Term y := by
  have hl := rd_len k_fd_146_0_0_3 k_sz_146_2 h
  obtain ⟨n0, y0, h0⟩ := rd_fld k_fd_146_0_0_3 K3 h
  obtain ⟨a0, e0, o0⟩ := rd_int K68 h0
  obtain ⟨n1, y1, h1⟩ := rd_fld k_fd_146_1_1_3 K3 h
  obtain ⟨a1, e1, o1⟩ := rd_int K68 h1
  exact ⟨⟨a0, a1⟩, (seg_step (off := 0) e0 rfl (seg_step (off := 1) e1 rfl (seg_end hl))), ⟨o0, o1⟩⟩
theorem rd_Affine {H : Type} {enc : TypeId × Value → H} {w : World} {base : Nat} {spare : Nat → Bool} {held : Bool} {n : Nat} {cs : List Value} {x : DataW H × List MemPlace} (h : DataW.trod enc Try.prog w base spare held n 52 cs = some x) : ∃ (y : TAffine), cs = enc_Affine y ∧ ok_Affine y := by
  have hl := rd_len k_fd_52_0_0_3 k_sz_52_2 h
  obtain ⟨n0, y0, h0⟩ := rd_fld k_fd_52_0_0_3 K3 h
  obtain ⟨a0, e0, o0⟩ := rd_int K68 h0
  obtain ⟨n1, y1, h1⟩ := rd_fld k_fd_52_1_1_3 K3 h
  obtain ⟨a1, e1, o1⟩ := rd_int K68 h1
  exact ⟨⟨a0, a1⟩, (seg_step (off := 0) e0 rfl (seg_step (off := 1) e1 rfl (seg_end hl))), ⟨o0, o1⟩⟩
theorem rd_PathSum {H : Type} {enc : TypeId × Value → H} {w : World} {base : Nat} {spare : Nat → Bool} {held : Bool} {n : Nat} {cs : List Value} {x : DataW H × List MemPlace} (h : DataW.trod enc Try.prog w base spare held n 50 cs = some x) : ∃ (y : TPathSum) (B0 : Option Addr) (c0 : Nat) (B1 : Option Addr) (c1 : Nat), cs = [.int .i64 y.Ins, .int .i64 y.Vars, .int .i64 y.Root, .int .i64 y.Phase, .slice B0 y.Terms.length c0, .slice B1 y.Out.length c1] ∧ ok_PathSum y ∧ (CF w B0 (y.Terms.flatMap enc_Term) ∧ (y.Terms.flatMap enc_Term ≠ [] → ∀ a, B0 = some a → a.block < w.heap.size)) ∧ (CF w B1 (y.Out.flatMap enc_Affine) ∧ (y.Out.flatMap enc_Affine ≠ [] → ∀ a, B1 = some a → a.block < w.heap.size)) := by
  have hl := rd_len k_fd_50_0_0_3 k_sz_50_6 h
  obtain ⟨n0, y0, h0⟩ := rd_fld k_fd_50_0_0_3 K3 h
  obtain ⟨a0, e0, o0⟩ := rd_int K68 h0
  obtain ⟨n1, y1, h1⟩ := rd_fld k_fd_50_1_1_3 K3 h
  obtain ⟨a1, e1, o1⟩ := rd_int K68 h1
  obtain ⟨n2, y2, h2⟩ := rd_fld k_fd_50_2_2_3 K3 h
  obtain ⟨a2, e2, o2⟩ := rd_int K68 h2
  obtain ⟨n3, y3, h3⟩ := rd_fld k_fd_50_3_3_3 K3 h
  obtain ⟨a3, e3, o3⟩ := rd_int K68 h3
  obtain ⟨n4, y4, h4⟩ := rd_fld k_fd_50_4_4_47 k_sz_47_1 h
  obtain ⟨B0, c0, a4, e4, o4, q0, g0⟩ := rd_slice (enc1 := enc_Term) (ok := ok_Term) k_sl_47_146 k_sz_146_2 rfl enc_Term_len (fun _ _ _ h => rd_Term h) h4
  obtain ⟨n5, y5, h5⟩ := rd_fld k_fd_50_5_5_48 k_sz_48_1 h
  obtain ⟨B1, c1, a5, e5, o5, q1, g1⟩ := rd_slice (enc1 := enc_Affine) (ok := ok_Affine) k_sl_48_52 k_sz_52_2 rfl enc_Affine_len (fun _ _ _ h => rd_Affine h) h5
  exact ⟨⟨a0, a1, a2, a3, a4, a5⟩, B0, c0, B1, c1, (seg_step (off := 0) e0 rfl (seg_step (off := 1) e1 rfl (seg_step (off := 2) e2 rfl (seg_step (off := 3) e3 rfl (seg_step (off := 4) e4 rfl (seg_step (off := 5) e5 rfl (seg_end hl))))))), ⟨o0, o1, o2, o3, o4, o5⟩, ⟨q0, g0⟩, ⟨q1, g1⟩⟩
end Go.VK
