/- A row's reading, opened: by program. -/
import Derived.Test.YtklicjfbpikobaaDoorReducePathSumFa
import Derived.Test.YtklicjfbpikobaaDoorLibH
set_option linter.unusedVariables false
set_option maxRecDepth 100000
namespace Go.VK
open Go.RowKit
open Go.Proofs
theorem rd_Term {H : Type} {enc : TypeId × Value → H} {w : World} {base : Nat} {spare : Nat → Bool} {held : Bool} {n : Nat} {cs : List Value} {x : DataW H × List MemPlace} (h : DataW.trod enc Tryd.prog w base spare held n 73 cs = some x) : ∃ (y : TTerm), cs = eN0 y ∧ ok_Term y := by
  have hl := rd_len k_fd_73_0_0_3 k_sz_73_2 h
  obtain ⟨n0, y0, h0⟩ := rd_fld k_fd_73_0_0_3 k_sz_3_1 h
  obtain ⟨a0, e0, o0⟩ := rd_int k_int_3_i64 h0
  obtain ⟨n1, y1, h1⟩ := rd_fld k_fd_73_1_1_3 k_sz_3_1 h
  obtain ⟨a1, e1, o1⟩ := rd_int k_int_3_i64 h1
  exact ⟨⟨a0, a1⟩, (seg_step (off := 0) e0 rfl (seg_step (off := 1) e1 rfl (seg_end hl))), ⟨o0, o1⟩⟩
theorem rd_Affine {H : Type} {enc : TypeId × Value → H} {w : World} {base : Nat} {spare : Nat → Bool} {held : Bool} {n : Nat} {cs : List Value} {x : DataW H × List MemPlace} (h : DataW.trod enc Tryd.prog w base spare held n 75 cs = some x) : ∃ (y : TAffine), cs = eN1 y ∧ ok_Affine y := by
  have hl := rd_len k_fd_75_0_0_3 k_sz_75_2 h
  obtain ⟨n0, y0, h0⟩ := rd_fld k_fd_75_0_0_3 k_sz_3_1 h
  obtain ⟨a0, e0, o0⟩ := rd_int k_int_3_i64 h0
  obtain ⟨n1, y1, h1⟩ := rd_fld k_fd_75_1_1_3 k_sz_3_1 h
  obtain ⟨a1, e1, o1⟩ := rd_int k_int_3_i64 h1
  exact ⟨⟨a0, a1⟩, (seg_step (off := 0) e0 rfl (seg_step (off := 1) e1 rfl (seg_end hl))), ⟨o0, o1⟩⟩
theorem rd_PathSum {H : Type} {enc : TypeId × Value → H} {w : World} {base : Nat} {spare : Nat → Bool} {held : Bool} {n : Nat} {cs : List Value} {x : DataW H × List MemPlace} (h : DataW.trod enc Tryd.prog w base spare held n 25 cs = some x) : ∃ (y : TPathSum) (B0 : Option Addr) (c0 : Nat) (B1 : Option Addr) (c1 : Nat), cs = [.int .i64 y.Ins, .int .i64 y.Vars, .int .i64 y.Root, .int .i64 y.Phase, .slice B0 y.Terms.length c0, .slice B1 y.Out.length c1] ∧ ok_PathSum y ∧ (CF w B0 (y.Terms.flatMap eN0) ∧ (y.Terms.flatMap eN0 ≠ [] → ∀ a, B0 = some a → a.block < w.heap.size)) ∧ (CF w B1 (y.Out.flatMap eN1) ∧ (y.Out.flatMap eN1 ≠ [] → ∀ a, B1 = some a → a.block < w.heap.size)) := by
  have hl := rd_len k_fd_25_0_0_3 k_sz_25_6 h
  obtain ⟨n0, y0, h0⟩ := rd_fld k_fd_25_0_0_3 k_sz_3_1 h
  obtain ⟨a0, e0, o0⟩ := rd_int k_int_3_i64 h0
  obtain ⟨n1, y1, h1⟩ := rd_fld k_fd_25_1_1_3 k_sz_3_1 h
  obtain ⟨a1, e1, o1⟩ := rd_int k_int_3_i64 h1
  obtain ⟨n2, y2, h2⟩ := rd_fld k_fd_25_2_2_3 k_sz_3_1 h
  obtain ⟨a2, e2, o2⟩ := rd_int k_int_3_i64 h2
  obtain ⟨n3, y3, h3⟩ := rd_fld k_fd_25_3_3_3 k_sz_3_1 h
  obtain ⟨a3, e3, o3⟩ := rd_int k_int_3_i64 h3
  obtain ⟨n4, y4, h4⟩ := rd_fld k_fd_25_4_4_22 k_sz_22_1 h
  obtain ⟨B0, c0, a4, e4, o4, q0, g0⟩ := rd_slice (enc1 := eN0) (ok := ok_Term) k_sl_22_73 k_sz_73_2 rfl eN2 (fun _ _ _ h => rd_Term h) h4
  obtain ⟨n5, y5, h5⟩ := rd_fld k_fd_25_5_5_23 k_sz_23_1 h
  obtain ⟨B1, c1, a5, e5, o5, q1, g1⟩ := rd_slice (enc1 := eN1) (ok := ok_Affine) k_sl_23_75 k_sz_75_2 rfl enc_Affine_len (fun _ _ _ h => rd_Affine h) h5
  exact ⟨⟨a0, a1, a2, a3, a4, a5⟩, B0, c0, B1, c1, (seg_step (off := 0) e0 rfl (seg_step (off := 1) e1 rfl (seg_step (off := 2) e2 rfl (seg_step (off := 3) e3 rfl (seg_step (off := 4) e4 rfl (seg_step (off := 5) e5 rfl (seg_end hl))))))), ⟨o0, o1, o2, o3, o4, o5⟩, ⟨q0, g0⟩, ⟨q1, g1⟩⟩
end Go.VK
