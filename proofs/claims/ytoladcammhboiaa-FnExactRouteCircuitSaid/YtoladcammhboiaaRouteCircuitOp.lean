/- A row's reading, opened: by program. -/
import Derived.Test.YtoladcammhboiaaRouteCircuitFa
import Derived.Test.YtoladcammhboiaaLibH
set_option linter.unusedVariables false
set_option maxRecDepth 100000
namespace Go.VK
open Go.RowKit
open Go.Proofs
theorem rd_Ring {H : Type} {enc : TypeId × Value → H} {w : World} {base : Nat} {spare : Nat → Bool} {held : Bool} {n : Nat} {cs : List Value} {x : DataW H × List MemPlace} (h : DataW.trod enc Try.prog w base spare held n 243 cs = some x) : ∃ (y : TRing), cs = enc_Ring y ∧ ok_Ring y := by
  have hl := rd_len k_fd_243_0_0_3 k_sz_243_4 h
  obtain ⟨n0, y0, h0⟩ := rd_fld k_fd_243_0_0_3 k_sz_3_1 h
  obtain ⟨a0, e0, o0⟩ := rd_int k_int_3_i64 h0
  obtain ⟨n1, y1, h1⟩ := rd_fld k_fd_243_1_1_3 k_sz_3_1 h
  obtain ⟨a1, e1, o1⟩ := rd_int k_int_3_i64 h1
  obtain ⟨n2, y2, h2⟩ := rd_fld k_fd_243_2_2_3 k_sz_3_1 h
  obtain ⟨a2, e2, o2⟩ := rd_int k_int_3_i64 h2
  obtain ⟨n3, y3, h3⟩ := rd_fld k_fd_243_3_3_3 k_sz_3_1 h
  obtain ⟨a3, e3, o3⟩ := rd_int k_int_3_i64 h3
  exact ⟨⟨a0, a1, a2, a3⟩, (seg_step (off := 0) e0 rfl (seg_step (off := 1) e1 rfl (seg_step (off := 2) e2 rfl (seg_step (off := 3) e3 rfl (seg_end hl))))), ⟨o0, o1, o2, o3⟩⟩
theorem rd_Dyadic {H : Type} {enc : TypeId × Value → H} {w : World} {base : Nat} {spare : Nat → Bool} {held : Bool} {n : Nat} {cs : List Value} {x : DataW H × List MemPlace} (h : DataW.trod enc Try.prog w base spare held n 245 cs = some x) : ∃ (y : TDyadic), cs = enc_Dyadic y ∧ ok_Dyadic y := by
  have hl := rd_len k_fd_245_0_0_243 k_sz_245_5 h
  obtain ⟨n0, y0, h0⟩ := rd_fld k_fd_245_0_0_243 k_sz_243_4 h
  obtain ⟨a0, e0, o0⟩ := rd_Ring h0
  obtain ⟨n1, y1, h1⟩ := rd_fld k_fd_245_1_4_3 k_sz_3_1 h
  obtain ⟨a1, e1, o1⟩ := rd_int k_int_3_i64 h1
  exact ⟨⟨a0, a1⟩, (seg_step (off := 0) e0 rfl (seg_step (off := 4) e1 rfl (seg_end hl))), ⟨o0, o1⟩⟩
theorem rd_Bloch {H : Type} {enc : TypeId × Value → H} {w : World} {base : Nat} {spare : Nat → Bool} {held : Bool} {n : Nat} {cs : List Value} {x : DataW H × List MemPlace} (h : DataW.trod enc Try.prog w base spare held n 24 cs = some x) : ∃ (y : TBloch) (B0 : Option Addr) (c0 : Nat), cs = [.slice B0 y.Cells.length c0] ∧ ok_Bloch y ∧ (CF w B0 (y.Cells.flatMap enc_Dyadic) ∧ (y.Cells.flatMap enc_Dyadic ≠ [] → ∀ a, B0 = some a → a.block < w.heap.size)) := by
  have hl := rd_len k_fd_24_0_0_22 k_sz_24_1 h
  obtain ⟨n0, y0, h0⟩ := rd_fld k_fd_24_0_0_22 k_sz_22_1 h
  obtain ⟨B0, c0, a0, e0, o0, q0, g0⟩ := rd_slice (enc1 := enc_Dyadic) (ok := ok_Dyadic) k_sl_22_245 k_sz_245_5 rfl enc_Dyadic_len (fun _ _ _ h => rd_Dyadic h) h0
  exact ⟨⟨a0⟩, B0, c0, (seg_step (off := 0) e0 rfl (seg_end hl)), o0, ⟨q0, g0⟩⟩
theorem rd_Pauli {H : Type} {enc : TypeId × Value → H} {w : World} {base : Nat} {spare : Nat → Bool} {held : Bool} {n : Nat} {cs : List Value} {x : DataW H × List MemPlace} (h : DataW.trod enc Try.prog w base spare held n 35 cs = some x) : ∃ (y : TPauli), cs = enc_Pauli y ∧ ok_Pauli y := by
  have hl := rd_len k_fd_35_0_0_3 k_sz_35_3 h
  obtain ⟨n0, y0, h0⟩ := rd_fld k_fd_35_0_0_3 k_sz_3_1 h
  obtain ⟨a0, e0, o0⟩ := rd_int k_int_3_i64 h0
  obtain ⟨n1, y1, h1⟩ := rd_fld k_fd_35_1_1_3 k_sz_3_1 h
  obtain ⟨a1, e1, o1⟩ := rd_int k_int_3_i64 h1
  obtain ⟨n2, y2, h2⟩ := rd_fld k_fd_35_2_2_3 k_sz_3_1 h
  obtain ⟨a2, e2, o2⟩ := rd_int k_int_3_i64 h2
  exact ⟨⟨a0, a1, a2⟩, (seg_step (off := 0) e0 rfl (seg_step (off := 1) e1 rfl (seg_step (off := 2) e2 rfl (seg_end hl)))), ⟨o0, o1, o2⟩⟩
theorem rd_Edge {H : Type} {enc : TypeId × Value → H} {w : World} {base : Nat} {spare : Nat → Bool} {held : Bool} {n : Nat} {cs : List Value} {x : DataW H × List MemPlace} (h : DataW.trod enc Try.prog w base spare held n 279 cs = some x) : ∃ (y : TEdge), cs = enc_Edge y ∧ ok_Edge y := by
  have hl := rd_len k_fd_279_0_0_3 k_sz_279_2 h
  obtain ⟨n0, y0, h0⟩ := rd_fld k_fd_279_0_0_3 k_sz_3_1 h
  obtain ⟨a0, e0, o0⟩ := rd_int k_int_3_i64 h0
  obtain ⟨n1, y1, h1⟩ := rd_fld k_fd_279_1_1_3 k_sz_3_1 h
  obtain ⟨a1, e1, o1⟩ := rd_int k_int_3_i64 h1
  exact ⟨⟨a0, a1⟩, (seg_step (off := 0) e0 rfl (seg_step (off := 1) e1 rfl (seg_end hl))), ⟨o0, o1⟩⟩
theorem rd_CouplingGraph {H : Type} {enc : TypeId × Value → H} {w : World} {base : Nat} {spare : Nat → Bool} {held : Bool} {n : Nat} {cs : List Value} {x : DataW H × List MemPlace} (h : DataW.trod enc Try.prog w base spare held n 86 cs = some x) : ∃ (y : TCouplingGraph) (B0 : Option Addr) (c0 : Nat), cs = [.int .i64 y.Nodes, .slice B0 y.Edges.length c0] ∧ ok_CouplingGraph y ∧ (CF w B0 (y.Edges.flatMap enc_Edge) ∧ (y.Edges.flatMap enc_Edge ≠ [] → ∀ a, B0 = some a → a.block < w.heap.size)) := by
  have hl := rd_len k_fd_86_0_0_3 k_sz_86_2 h
  obtain ⟨n0, y0, h0⟩ := rd_fld k_fd_86_0_0_3 k_sz_3_1 h
  obtain ⟨a0, e0, o0⟩ := rd_int k_int_3_i64 h0
  obtain ⟨n1, y1, h1⟩ := rd_fld k_fd_86_1_1_84 k_sz_84_1 h
  obtain ⟨B0, c0, a1, e1, o1, q0, g0⟩ := rd_slice (enc1 := enc_Edge) (ok := ok_Edge) k_sl_84_279 k_sz_279_2 rfl enc_Edge_len (fun _ _ _ h => rd_Edge h) h1
  exact ⟨⟨a0, a1⟩, B0, c0, (seg_step (off := 0) e0 rfl (seg_step (off := 1) e1 rfl (seg_end hl))), ⟨o0, o1⟩, ⟨q0, g0⟩⟩
theorem rd_Gate {H : Type} {enc : TypeId × Value → H} {w : World} {base : Nat} {spare : Nat → Bool} {held : Bool} {n : Nat} {cs : List Value} {x : DataW H × List MemPlace} (h : DataW.trod enc Try.prog w base spare held n 281 cs = some x) : ∃ (y : TGate), cs = enc_Gate y ∧ ok_Gate y := by
  have hl := rd_len k_fd_281_0_0_3 k_sz_281_3 h
  obtain ⟨n0, y0, h0⟩ := rd_fld k_fd_281_0_0_3 k_sz_3_1 h
  obtain ⟨a0, e0, o0⟩ := rd_int k_int_3_i64 h0
  obtain ⟨n1, y1, h1⟩ := rd_fld k_fd_281_1_1_3 k_sz_3_1 h
  obtain ⟨a1, e1, o1⟩ := rd_int k_int_3_i64 h1
  obtain ⟨n2, y2, h2⟩ := rd_fld k_fd_281_2_2_3 k_sz_3_1 h
  obtain ⟨a2, e2, o2⟩ := rd_int k_int_3_i64 h2
  exact ⟨⟨a0, a1, a2⟩, (seg_step (off := 0) e0 rfl (seg_step (off := 1) e1 rfl (seg_step (off := 2) e2 rfl (seg_end hl)))), ⟨o0, o1, o2⟩⟩
theorem rd_Circuit {H : Type} {enc : TypeId × Value → H} {w : World} {base : Nat} {spare : Nat → Bool} {held : Bool} {n : Nat} {cs : List Value} {x : DataW H × List MemPlace} (h : DataW.trod enc Try.prog w base spare held n 89 cs = some x) : ∃ (y : TCircuit) (B0 : Option Addr) (c0 : Nat), cs = [.int .i64 y.Qubits, .slice B0 y.Gates.length c0] ∧ ok_Circuit y ∧ (CF w B0 (y.Gates.flatMap enc_Gate) ∧ (y.Gates.flatMap enc_Gate ≠ [] → ∀ a, B0 = some a → a.block < w.heap.size)) := by
  have hl := rd_len k_fd_89_0_0_3 k_sz_89_2 h
  obtain ⟨n0, y0, h0⟩ := rd_fld k_fd_89_0_0_3 k_sz_3_1 h
  obtain ⟨a0, e0, o0⟩ := rd_int k_int_3_i64 h0
  obtain ⟨n1, y1, h1⟩ := rd_fld k_fd_89_1_1_87 k_sz_87_1 h
  obtain ⟨B0, c0, a1, e1, o1, q0, g0⟩ := rd_slice (enc1 := enc_Gate) (ok := ok_Gate) k_sl_87_281 k_sz_281_3 rfl enc_Gate_len (fun _ _ _ h => rd_Gate h) h1
  exact ⟨⟨a0, a1⟩, B0, c0, (seg_step (off := 0) e0 rfl (seg_step (off := 1) e1 rfl (seg_end hl))), ⟨o0, o1⟩, ⟨q0, g0⟩⟩
theorem rd_RouteStep {H : Type} {enc : TypeId × Value → H} {w : World} {base : Nat} {spare : Nat → Bool} {held : Bool} {n : Nat} {cs : List Value} {x : DataW H × List MemPlace} (h : DataW.trod enc Try.prog w base spare held n 283 cs = some x) : ∃ (y : TRouteStep), cs = enc_RouteStep y ∧ ok_RouteStep y := by
  have hl := rd_len k_fd_283_0_0_3 k_sz_283_3 h
  obtain ⟨n0, y0, h0⟩ := rd_fld k_fd_283_0_0_3 k_sz_3_1 h
  obtain ⟨a0, e0, o0⟩ := rd_int k_int_3_i64 h0
  obtain ⟨n1, y1, h1⟩ := rd_fld k_fd_283_1_1_3 k_sz_3_1 h
  obtain ⟨a1, e1, o1⟩ := rd_int k_int_3_i64 h1
  obtain ⟨n2, y2, h2⟩ := rd_fld k_fd_283_2_2_3 k_sz_3_1 h
  obtain ⟨a2, e2, o2⟩ := rd_int k_int_3_i64 h2
  exact ⟨⟨a0, a1, a2⟩, (seg_step (off := 0) e0 rfl (seg_step (off := 1) e1 rfl (seg_step (off := 2) e2 rfl (seg_end hl)))), ⟨o0, o1, o2⟩⟩
theorem rd_Route {H : Type} {enc : TypeId × Value → H} {w : World} {base : Nat} {spare : Nat → Bool} {held : Bool} {n : Nat} {cs : List Value} {x : DataW H × List MemPlace} (h : DataW.trod enc Try.prog w base spare held n 92 cs = some x) : ∃ (y : TRoute) (B0 : Option Addr) (c0 : Nat) (B1 : Option Addr) (c1 : Nat), cs = [.slice B0 y.Start.length c0, .slice B1 y.Steps.length c1] ∧ ok_Route y ∧ (CF w B0 (y.Start.flatMap encI) ∧ (y.Start.flatMap encI ≠ [] → ∀ a, B0 = some a → a.block < w.heap.size)) ∧ (CF w B1 (y.Steps.flatMap enc_RouteStep) ∧ (y.Steps.flatMap enc_RouteStep ≠ [] → ∀ a, B1 = some a → a.block < w.heap.size)) := by
  have hl := rd_len k_fd_92_0_0_59 k_sz_92_2 h
  obtain ⟨n0, y0, h0⟩ := rd_fld k_fd_92_0_0_59 k_sz_59_1 h
  obtain ⟨B0, c0, a0, e0, o0, q0, g0⟩ := rd_slice (enc1 := encI) (ok := I64) k_sl_59_3 k_sz_3_1 rfl encI_len (fun _ _ _ h => rd_int k_int_3_i64 h) h0
  obtain ⟨n1, y1, h1⟩ := rd_fld k_fd_92_1_1_90 k_sz_90_1 h
  obtain ⟨B1, c1, a1, e1, o1, q1, g1⟩ := rd_slice (enc1 := enc_RouteStep) (ok := ok_RouteStep) k_sl_90_283 k_sz_283_3 rfl enc_RouteStep_len (fun _ _ _ h => rd_RouteStep h) h1
  exact ⟨⟨a0, a1⟩, B0, c0, B1, c1, (seg_step (off := 0) e0 rfl (seg_step (off := 1) e1 rfl (seg_end hl))), ⟨o0, o1⟩, ⟨q0, g0⟩, ⟨q1, g1⟩⟩
end Go.VK
