/- Walks: each Go function returns what its Lean function says. By program. -/
import Derived.Test.YtchihdcajdocgaaLMatricesFa
import Derived.Test.YtchihdcajdocgaaLMatricesW3
set_option linter.unusedVariables false
set_option maxRecDepth 100000
set_option maxHeartbeats 1000000
namespace Go.VK
open Go.RowKit
open Go.Proofs
attribute [local irreducible] CW RW RA CV Y Yw Yc Ys RetOf
attribute [local irreducible] F_laws_big F_spec_l1Cur_next F_spec_l1Cur_pick F_spec_l1Cur_among F_spec_l1Even F_spec_l1Root F_spec_l1Half F_spec_l2Low F_spec_l1Cur_ring F_spec_l1Cur_dyadic F_spec_l1Cur_matrix F_spec_l1Cur_one F_spec_l1Cur_coef F_spec_l1Cur_anyRing F_spec_l1In F_spec_l1All F_spec_l1Good F_spec_l1Turn F_spec_l2Power F_spec_l1Cur_anyDyadic F_spec_l3Unit F_spec_l1Cur_anyMatrix F_spec_DrawMulMatrix F_impl_within F_impl_isDim F_impl_matrixOf F_slices_IndexFunc_impl_Dyadic_impl_Dyadic F_slices_ContainsFunc_impl_Dyadic_impl_Dyadic F_impl_isCoef F_impl_IsValidRing F_impl_isEven F_impl_IsValidDyadic F_impl_IsValidMatrix_1 F_impl_IsValidMatrix F_impl_ringIf F_impl_MulRing F_impl_DivRootTwo F_impl_DyadicOf F_impl_MulDyadic F_impl_Matrix_at F_impl_MulRootTwo F_impl_raised F_impl_combined F_impl_AddRing F_impl_AddDyadic F_impl_MulMatrix_1 F_impl_MulMatrix F_spec_l1Has F_spec_l3Dim F_spec_l2Good F_spec_l3Good F_spec_l2C_matrix F_spec_l2C_ring F_spec_l1Add F_spec_l2C_add F_spec_l1Mul F_spec_l2C_mul F_spec_l2C_times F_spec_MulMatrix F_spec_EqualMatrices F_impl_Conjugate F_impl_ConjDyadic F_impl_Adjoint_1 F_impl_Adjoint F_impl_whole F_impl_IdentityMatrix_1 F_impl_IdentityMatrix F_impl_TraceOf F_spec_DrawKron F_impl_Kron_1 F_impl_Kron F_laws_FnMatrices
theorem c_spec_l2C_times (c : Tl2C) (a : TMatrix) (b : TMatrix) (B : Option Addr) (B1 : Option Addr) (c1 n : Nat) (B2 : Option Addr) (c2 n1 : Nat) (w0 : World) (hn : a.Cells.length = n) (hn1 : b.Cells.length = n1) (hS : ST w0 (bl [⟨B, 96, [.bool c.bad], 1⟩]) w0 [⟨B, 96, [.bool c.bad], 1⟩] [⟨B1, (a.Cells.flatMap enc_Dyadic)⟩, ⟨B2, (b.Cells.flatMap enc_Dyadic)⟩]) {r_ : TMatrix} {m : Tl2C} (hF : F_spec_l2C_times c a b = some (r_, m)) :
    CV Try.prog 63 #[pt B 0, .agg #[.int .i64 a.Rows, .int .i64 a.Cols, .slice B1 n c1], .agg #[.int .i64 b.Rows, .int .i64 b.Cols, .slice B2 n1 c2]] w0 (fun v w' => ∃ (B3 : Option Addr) (c3 : Nat), v = .agg #[.int .i64 r_.Rows, .int .i64 r_.Cols, .slice B3 r_.Cells.length c3] ∧ ST w0 (bl [⟨B, 96, [.bool c.bad], 1⟩]) w' [⟨B, 96, [.bool m.bad], 1⟩, ⟨B3, 44, (r_.Cells.flatMap enc_Dyadic), c3 * 5⟩] []) := by
  subst hn
  subst hn1
  unfold F_spec_l2C_times at hF
  refine cv_of_cw 75 Try.func63 rfl Try.ntmps63 rfl ?_
  refine cw_seq ?_
  refine cw_region ?_
  refine ss 4 rfl rfl (Ys_box (T := 26) (v := .agg #[.int .i64 a.Rows, .int .i64 a.Cols, .slice B1 a.Cells.length c1]) (cs := [.int .i64 a.Rows, .int .i64 a.Cols, .slice B1 a.Cells.length c1]) (m := 3) hS rfl rfl rfl rfl) ?_
  rintro _ w_ ⟨b1, rfl, hS1⟩
  have hS1 : ST w0 (bl [⟨B, 96, [.bool c.bad], 1⟩]) _ [⟨B, 96, [.bool c.bad], 1⟩, ⟨some ⟨b1, 0, none⟩, 26, [.int .i64 a.Rows, .int .i64 a.Cols, .slice B1 a.Cells.length c1], 3⟩] [⟨B1, (a.Cells.flatMap enc_Dyadic)⟩, ⟨B2, (b.Cells.flatMap enc_Dyadic)⟩] := hS1
  refine ss 5 rfl rfl (Ys_box (T := 26) (v := .agg #[.int .i64 b.Rows, .int .i64 b.Cols, .slice B2 b.Cells.length c2]) (cs := [.int .i64 b.Rows, .int .i64 b.Cols, .slice B2 b.Cells.length c2]) (m := 3) hS1 rfl rfl rfl rfl) ?_
  rintro _ w_1 ⟨b2, rfl, hS2⟩
  have hS2 : ST w0 (bl [⟨B, 96, [.bool c.bad], 1⟩]) _ [⟨B, 96, [.bool c.bad], 1⟩, ⟨some ⟨b1, 0, none⟩, 26, [.int .i64 a.Rows, .int .i64 a.Cols, .slice B1 a.Cells.length c1], 3⟩, ⟨some ⟨b2, 0, none⟩, 26, [.int .i64 b.Rows, .int .i64 b.Cols, .slice B2 b.Cells.length c2], 3⟩] [⟨B1, (a.Cells.flatMap enc_Dyadic)⟩, ⟨B2, (b.Cells.flatMap enc_Dyadic)⟩] := hS2
  refine ss 6 rfl rfl (Ys_alloc (T := 26) (cs := [.int .i64 0, .int .i64 0, .slice none 0 0]) (m := 3) hS2 k_zero_26 rfl rfl rfl) ?_
  rintro _ w_2 ⟨b3, rfl, hS3⟩
  have hS3 : ST w0 (bl [⟨B, 96, [.bool c.bad], 1⟩]) _ [⟨B, 96, [.bool c.bad], 1⟩, ⟨some ⟨b1, 0, none⟩, 26, [.int .i64 a.Rows, .int .i64 a.Cols, .slice B1 a.Cells.length c1], 3⟩, ⟨some ⟨b2, 0, none⟩, 26, [.int .i64 b.Rows, .int .i64 b.Cols, .slice B2 b.Cells.length c2], 3⟩, ⟨some ⟨b3, 0, none⟩, 26, [.int .i64 0, .int .i64 0, .slice none 0 0], 3⟩] [⟨B1, (a.Cells.flatMap enc_Dyadic)⟩, ⟨B2, (b.Cells.flatMap enc_Dyadic)⟩] := hS3
  refine rw_nil ?_
  refine cw_seq ?_
  refine cw_region ?_
  refine sq 12 rfl rfl (Y_fieldAddr (B := some ⟨b1, 0, none⟩) (i := 0) (s := 0) k_fd_26_0_0_3 k_sz_3_1 rfl rfl) ?_
  refine sq 13 rfl rfl (Y_load1 (B := some ⟨b1, 0, none⟩) (i := 0) (cs := [.int .i64 a.Rows, .int .i64 a.Cols, .slice B1 a.Cells.length c1]) (v := .int .i64 a.Rows) k_sc_3 rfl rfl (hS3.cf (i := 1) rfl) rfl) ?_
  refine sq 14 rfl rfl (Y_fieldAddr (B := some ⟨b2, 0, none⟩) (i := 0) (s := 0) k_fd_26_1_1_3 k_sz_3_1 rfl rfl) ?_
  refine sq 15 rfl rfl (Y_load1 (B := some ⟨b2, 0, none⟩) (i := 1) (cs := [.int .i64 b.Rows, .int .i64 b.Cols, .slice B2 b.Cells.length c2]) (v := .int .i64 b.Cols) k_sc_3 rfl rfl (hS3.cf (i := 2) rfl) rfl) ?_
  refine sq 16 rfl rfl (Y_buildS (zs := [.int .i64 0, .int .i64 0, .slice none 0 0]) (vs := [(0, .int .i64 a.Rows), (1, .int .i64 b.Cols)]) (cs := [.int .i64 a.Rows, .int .i64 b.Cols, .slice none 0 0]) k_pl_26 k_zero_26 rfl (mpc rfl (mpc rfl mpn)) rfl) ?_
  refine ss 7 rfl rfl (Ys_alloc (T := 26) (cs := [.int .i64 0, .int .i64 0, .slice none 0 0]) (m := 3) hS3 k_zero_26 rfl rfl rfl) ?_
  rintro _ w_3 ⟨b4, rfl, hS4⟩
  have hS4 : ST w0 (bl [⟨B, 96, [.bool c.bad], 1⟩]) _ [⟨B, 96, [.bool c.bad], 1⟩, ⟨some ⟨b1, 0, none⟩, 26, [.int .i64 a.Rows, .int .i64 a.Cols, .slice B1 a.Cells.length c1], 3⟩, ⟨some ⟨b2, 0, none⟩, 26, [.int .i64 b.Rows, .int .i64 b.Cols, .slice B2 b.Cells.length c2], 3⟩, ⟨some ⟨b3, 0, none⟩, 26, [.int .i64 0, .int .i64 0, .slice none 0 0], 3⟩, ⟨some ⟨b4, 0, none⟩, 26, [.int .i64 0, .int .i64 0, .slice none 0 0], 3⟩] [⟨B1, (a.Cells.flatMap enc_Dyadic)⟩, ⟨B2, (b.Cells.flatMap enc_Dyadic)⟩] := hS4
  refine ss0 rfl rfl (Ys_store (i := 4) (s := 3) (B := some ⟨b4, 0, none⟩) (T' := 26) (v := .agg #[.int .i64 a.Rows, .int .i64 b.Cols, .slice none 0 0]) (vs := [.int .i64 a.Rows, .int .i64 b.Cols, .slice none 0 0]) (k := 0) (cs' := [.int .i64 a.Rows, .int .i64 b.Cols, .slice none 0 0]) hS4 k_sz_26_3 rfl rfl rfl rfl rfl rfl rfl (Nat.le_of_ble_eq_true rfl) rfl rfl) ?_
  rintro _ w_4 ⟨rfl, hS5⟩
  have hS5 : ST w0 (bl [⟨B, 96, [.bool c.bad], 1⟩]) _ [⟨B, 96, [.bool c.bad], 1⟩, ⟨some ⟨b1, 0, none⟩, 26, [.int .i64 a.Rows, .int .i64 a.Cols, .slice B1 a.Cells.length c1], 3⟩, ⟨some ⟨b2, 0, none⟩, 26, [.int .i64 b.Rows, .int .i64 b.Cols, .slice B2 b.Cells.length c2], 3⟩, ⟨some ⟨b3, 0, none⟩, 26, [.int .i64 0, .int .i64 0, .slice none 0 0], 3⟩, ⟨some ⟨b4, 0, none⟩, 26, [.int .i64 a.Rows, .int .i64 b.Cols, .slice none 0 0], 3⟩] [⟨B1, (a.Cells.flatMap enc_Dyadic)⟩, ⟨B2, (b.Cells.flatMap enc_Dyadic)⟩] := hS5
  refine rw_nil ?_
  refine cw_seq ?_
  refine cw_seq ?_
  refine cw_region ?_
  refine sq 8 rfl rfl (Y_assign (v := .int .i64 0) rfl rfl) ?_
  refine rw_nil ?_
  obtain ⟨hN, hF⟩ := chk_inv hF
  obtain ⟨z, hz, hF1⟩ := bind_inv hF
  have hS7 := hS5.addNil 44
  refine cw_block ?_
  refine cw_loop (fun k f w => ∃ (i1 : Nat) (bad : Bool) (Cells : List TDyadic) (B4 : Option Addr) (c4 : Nat), FF f [(0, pt B 0), (4, pt (some ⟨b1, 0, none⟩) 0), (5, pt (some ⟨b2, 0, none⟩) 0), (6, pt (some ⟨b3, 0, none⟩) 0), (7, pt (some ⟨b4, 0, none⟩) 0), (8, .int .i64 (i1 : Int))] ∧ ST w0 (bl [⟨B, 96, [.bool c.bad], 1⟩]) w [⟨B, 96, [.bool bad], 1⟩, ⟨some ⟨b1, 0, none⟩, 26, [.int .i64 a.Rows, .int .i64 a.Cols, .slice B1 a.Cells.length c1], 3⟩, ⟨some ⟨b2, 0, none⟩, 26, [.int .i64 b.Rows, .int .i64 b.Cols, .slice B2 b.Cells.length c2], 3⟩, ⟨some ⟨b3, 0, none⟩, 26, [.int .i64 0, .int .i64 0, .slice none 0 0], 3⟩, ⟨some ⟨b4, 0, none⟩, 26, [.int .i64 a.Rows, .int .i64 b.Cols, .slice B4 Cells.length c4], 3⟩, ⟨B4, 44, (Cells.flatMap enc_Dyadic), c4 * 5⟩] [⟨B1, (a.Cells.flatMap enc_Dyadic)⟩, ⟨B2, (b.Cells.flatMap enc_Dyadic)⟩] ∧ i1 + k = a.Rows.toNat ∧ forN (F_spec_l2C_times_l1 b a) k i1 (bad, Cells) = some z) a.Rows.toNat ⟨0, c.bad, [], none, 0, (FF.cons rfl (FF.cons rfl (FF.cons rfl (FF.cons rfl (FF.cons rfl (FF.cons rfl FF.nil)))))), (hS7.sel [0, 1, 2, 3, 4, 5] rfl rfl), Nat.zero_add _, hz⟩ ?_
  rintro k_ f w ⟨i1, bad, Cells, B4, c4, hf, hS6, hik, hL⟩
  refine cw_seq ?_
  refine cw_seq ?_
  refine cw_region ?_
  refine sq 17 rfl rfl (Y_move (v := .int .i64 (i1 : Int)) rfl (hf.get 8 5 rfl)) ?_
  refine sq 18 rfl rfl (Y_fieldAddr (B := some ⟨b1, 0, none⟩) (i := 0) (s := 0) k_fd_26_0_0_3 k_sz_3_1 rfl (hf.get 4 1 rfl)) ?_
  refine sq 19 rfl rfl (Y_load1 (B := some ⟨b1, 0, none⟩) (i := 0) (cs := [.int .i64 a.Rows, .int .i64 a.Cols, .slice B1 a.Cells.length c1]) (v := .int .i64 a.Rows) k_sc_3 rfl rfl (hS6.cf (i := 1) rfl) rfl) ?_
  refine sq 20 rfl rfl (Y_lt (k := .i64) (a := (i1 : Int)) (b := a.Rows) rfl rfl rfl) ?_
  refine rw_nil ?_
  refine cw_cond (b := (decide ((i1 : Int) < a.Rows))) rfl (fun hlt => ?_) (fun hlt => ?_)
  · skip
    have hlt1 : i1 < a.Rows.toNat := by have h := of_decide_eq_true hlt; omega
    obtain ⟨k_1, rfl⟩ : ∃ k2, k_ = k2 + 1 := ⟨k_ - 1, by omega⟩
    obtain ⟨y, hb, hL1⟩ := forN_go hL
    unfold F_spec_l2C_times_l1 at hb
    refine cw_skip ?_
    refine cw_seq ?_
    refine cw_block ?_
    refine cw_seq ?_
    refine cw_region ?_
    refine sq 9 rfl rfl (Y_assign (v := .int .i64 0) rfl rfl) ?_
    refine rw_nil ?_
    obtain ⟨hN1, hb⟩ := chk_inv hb
    obtain ⟨z1, hz1, hF2⟩ := bind_inv hb
    refine cw_block ?_
    refine cw_loop (fun k f w => ∃ (j : Nat) (bad1 : Bool) (Cells1 : List TDyadic) (B5 : Option Addr) (c5 : Nat), FF f [(0, pt B 0), (4, pt (some ⟨b1, 0, none⟩) 0), (5, pt (some ⟨b2, 0, none⟩) 0), (6, pt (some ⟨b3, 0, none⟩) 0), (7, pt (some ⟨b4, 0, none⟩) 0), (8, .int .i64 (i1 : Int)), (9, .int .i64 (j : Int))] ∧ ST w0 (bl [⟨B, 96, [.bool c.bad], 1⟩]) w [⟨B, 96, [.bool bad1], 1⟩, ⟨some ⟨b1, 0, none⟩, 26, [.int .i64 a.Rows, .int .i64 a.Cols, .slice B1 a.Cells.length c1], 3⟩, ⟨some ⟨b2, 0, none⟩, 26, [.int .i64 b.Rows, .int .i64 b.Cols, .slice B2 b.Cells.length c2], 3⟩, ⟨some ⟨b3, 0, none⟩, 26, [.int .i64 0, .int .i64 0, .slice none 0 0], 3⟩, ⟨some ⟨b4, 0, none⟩, 26, [.int .i64 a.Rows, .int .i64 b.Cols, .slice B5 Cells1.length c5], 3⟩, ⟨B5, 44, (Cells1.flatMap enc_Dyadic), c5 * 5⟩] [⟨B1, (a.Cells.flatMap enc_Dyadic)⟩, ⟨B2, (b.Cells.flatMap enc_Dyadic)⟩] ∧ j + k = b.Cols.toNat ∧ forN (F_spec_l2C_times_l2 a Cells i1 b bad) k j (bad1, Cells1) = some z1) b.Cols.toNat ⟨0, bad, Cells, B4, c4, (FF.cons (hf.get 0 0 rfl) (FF.cons (hf.get 4 1 rfl) (FF.cons (hf.get 5 2 rfl) (FF.cons (hf.get 6 3 rfl) (FF.cons (hf.get 7 4 rfl) (FF.cons (hf.get 8 5 rfl) (FF.cons rfl FF.nil))))))), (hS6.sel [0, 1, 2, 3, 4, 5] rfl rfl), Nat.zero_add _, hz1⟩ ?_
    rintro k_2 f w ⟨j, bad1, Cells1, B5, c5, hf1, hS8, hik1, hL2⟩
    refine cw_seq ?_
    refine cw_seq ?_
    refine cw_region ?_
    refine sq 23 rfl rfl (Y_move (v := .int .i64 (j : Int)) rfl (hf1.get 9 6 rfl)) ?_
    refine sq 24 rfl rfl (Y_fieldAddr (B := some ⟨b2, 0, none⟩) (i := 0) (s := 0) k_fd_26_1_1_3 k_sz_3_1 rfl (hf1.get 5 2 rfl)) ?_
    refine sq 25 rfl rfl (Y_load1 (B := some ⟨b2, 0, none⟩) (i := 1) (cs := [.int .i64 b.Rows, .int .i64 b.Cols, .slice B2 b.Cells.length c2]) (v := .int .i64 b.Cols) k_sc_3 rfl rfl (hS8.cf (i := 2) rfl) rfl) ?_
    refine sq 26 rfl rfl (Y_lt (k := .i64) (a := (j : Int)) (b := b.Cols) rfl rfl rfl) ?_
    refine rw_nil ?_
    refine cw_cond (b := (decide ((j : Int) < b.Cols))) rfl (fun hlt2 => ?_) (fun hlt2 => ?_)
    · skip
      have hlt3 : j < b.Cols.toNat := by have h := of_decide_eq_true hlt2; omega
      obtain ⟨k_3, rfl⟩ : ∃ k2, k_2 = k2 + 1 := ⟨k_2 - 1, by omega⟩
      obtain ⟨y1, hb1, hL3⟩ := forN_go hL2
      unfold F_spec_l2C_times_l2 at hb1
      refine cw_skip ?_
      refine cw_seq ?_
      refine cw_block ?_
      refine cw_seq ?_
      refine cw_region ?_
      refine sq 29 rfl rfl (Y_buildS (zs := [.int .i64 0, .int .i64 0, .int .i64 0, .int .i64 0, .int .i64 0]) (vs := []) (cs := [.int .i64 0, .int .i64 0, .int .i64 0, .int .i64 0, .int .i64 0]) k_pl_44 k_zero_44 rfl mpn rfl) ?_
      refine ss 10 rfl rfl (Ys_alloc (T := 44) (cs := [.int .i64 0, .int .i64 0, .int .i64 0, .int .i64 0, .int .i64 0]) (m := 5) hS8 k_zero_44 rfl rfl rfl) ?_
      rintro _ w_5 ⟨b5, rfl, hS9⟩
      have hS9 : ST w0 (bl [⟨B, 96, [.bool c.bad], 1⟩]) _ [⟨B, 96, [.bool bad1], 1⟩, ⟨some ⟨b1, 0, none⟩, 26, [.int .i64 a.Rows, .int .i64 a.Cols, .slice B1 a.Cells.length c1], 3⟩, ⟨some ⟨b2, 0, none⟩, 26, [.int .i64 b.Rows, .int .i64 b.Cols, .slice B2 b.Cells.length c2], 3⟩, ⟨some ⟨b3, 0, none⟩, 26, [.int .i64 0, .int .i64 0, .slice none 0 0], 3⟩, ⟨some ⟨b4, 0, none⟩, 26, [.int .i64 a.Rows, .int .i64 b.Cols, .slice B5 Cells1.length c5], 3⟩, ⟨B5, 44, (Cells1.flatMap enc_Dyadic), c5 * 5⟩, ⟨some ⟨b5, 0, none⟩, 44, [.int .i64 0, .int .i64 0, .int .i64 0, .int .i64 0, .int .i64 0], 5⟩] [⟨B1, (a.Cells.flatMap enc_Dyadic)⟩, ⟨B2, (b.Cells.flatMap enc_Dyadic)⟩] := hS9
      refine ss0 rfl rfl (Ys_store (i := 6) (s := 5) (B := some ⟨b5, 0, none⟩) (T' := 44) (v := .agg #[.int .i64 0, .int .i64 0, .int .i64 0, .int .i64 0, .int .i64 0]) (vs := [.int .i64 0, .int .i64 0, .int .i64 0, .int .i64 0, .int .i64 0]) (k := 0) (cs' := [.int .i64 0, .int .i64 0, .int .i64 0, .int .i64 0, .int .i64 0]) hS9 k_sz_44_5 rfl rfl rfl rfl rfl rfl rfl (Nat.le_of_ble_eq_true rfl) rfl rfl) ?_
      rintro _ w_6 ⟨rfl, hS10⟩
      have hS10 : ST w0 (bl [⟨B, 96, [.bool c.bad], 1⟩]) _ [⟨B, 96, [.bool bad1], 1⟩, ⟨some ⟨b1, 0, none⟩, 26, [.int .i64 a.Rows, .int .i64 a.Cols, .slice B1 a.Cells.length c1], 3⟩, ⟨some ⟨b2, 0, none⟩, 26, [.int .i64 b.Rows, .int .i64 b.Cols, .slice B2 b.Cells.length c2], 3⟩, ⟨some ⟨b3, 0, none⟩, 26, [.int .i64 0, .int .i64 0, .slice none 0 0], 3⟩, ⟨some ⟨b4, 0, none⟩, 26, [.int .i64 a.Rows, .int .i64 b.Cols, .slice B5 Cells1.length c5], 3⟩, ⟨B5, 44, (Cells1.flatMap enc_Dyadic), c5 * 5⟩, ⟨some ⟨b5, 0, none⟩, 44, [.int .i64 0, .int .i64 0, .int .i64 0, .int .i64 0, .int .i64 0], 5⟩] [⟨B1, (a.Cells.flatMap enc_Dyadic)⟩, ⟨B2, (b.Cells.flatMap enc_Dyadic)⟩] := hS10
      refine rw_nil ?_
      refine cw_seq ?_
      refine cw_seq ?_
      refine cw_region ?_
      refine sq 11 rfl rfl (Y_assign (v := .int .i64 0) rfl rfl) ?_
      refine rw_nil ?_
      obtain ⟨z2, hz2, hF3⟩ := bind_inv hb1
      refine cw_block ?_
      refine cw_loop (fun k f w => ∃ (bad2 : Bool) (A : Int) (B6 : Int) (C : Int) (D : Int) (Exp : Int) (k_4 : Int), FF f [(0, pt B 0), (4, pt (some ⟨b1, 0, none⟩) 0), (5, pt (some ⟨b2, 0, none⟩) 0), (6, pt (some ⟨b3, 0, none⟩) 0), (7, pt (some ⟨b4, 0, none⟩) 0), (8, .int .i64 (i1 : Int)), (9, .int .i64 (j : Int)), (10, pt (some ⟨b5, 0, none⟩) 0), (11, .int .i64 k_4)] ∧ ST w0 (bl [⟨B, 96, [.bool c.bad], 1⟩]) w [⟨B, 96, [.bool bad2], 1⟩, ⟨some ⟨b1, 0, none⟩, 26, [.int .i64 a.Rows, .int .i64 a.Cols, .slice B1 a.Cells.length c1], 3⟩, ⟨some ⟨b2, 0, none⟩, 26, [.int .i64 b.Rows, .int .i64 b.Cols, .slice B2 b.Cells.length c2], 3⟩, ⟨some ⟨b3, 0, none⟩, 26, [.int .i64 0, .int .i64 0, .slice none 0 0], 3⟩, ⟨some ⟨b4, 0, none⟩, 26, [.int .i64 a.Rows, .int .i64 b.Cols, .slice B5 Cells1.length c5], 3⟩, ⟨B5, 44, (Cells1.flatMap enc_Dyadic), c5 * 5⟩, ⟨some ⟨b5, 0, none⟩, 44, [.int .i64 A, .int .i64 B6, .int .i64 C, .int .i64 D, .int .i64 Exp], 5⟩] [⟨B1, (a.Cells.flatMap enc_Dyadic)⟩, ⟨B2, (b.Cells.flatMap enc_Dyadic)⟩] ∧ whX (F_spec_l2C_times_l3 a Cells i1 b j bad) k (bad2, A, B6, C, D, Exp, k_4) = some z2) fuel ⟨bad1, 0, 0, 0, 0, 0, 0, (FF.cons (hf1.get 0 0 rfl) (FF.cons (hf1.get 4 1 rfl) (FF.cons (hf1.get 5 2 rfl) (FF.cons (hf1.get 6 3 rfl) (FF.cons (hf1.get 7 4 rfl) (FF.cons (hf1.get 8 5 rfl) (FF.cons (hf1.get 9 6 rfl) (FF.cons rfl (FF.cons rfl FF.nil))))))))), (hS10.sel [0, 1, 2, 3, 4, 5, 6] rfl rfl), hz2⟩ ?_
      rintro k_5 f w ⟨bad2, A, B6, C, D, Exp, k_4, hf2, hS11, hL4⟩
      obtain ⟨k_6, y2, rfl, hb2, hL5⟩ := whX_go hL4
      unfold F_spec_l2C_times_l3 at hb2
      refine cw_seq ?_
      refine cw_seq ?_
      refine cw_region ?_
      refine sq 30 rfl rfl (Y_move (v := .int .i64 k_4) rfl (hf2.get 11 8 rfl)) ?_
      refine sq 31 rfl rfl (Y_fieldAddr (B := some ⟨b1, 0, none⟩) (i := 0) (s := 0) k_fd_26_1_1_3 k_sz_3_1 rfl (hf2.get 4 1 rfl)) ?_
      refine sq 32 rfl rfl (Y_load1 (B := some ⟨b1, 0, none⟩) (i := 1) (cs := [.int .i64 a.Rows, .int .i64 a.Cols, .slice B1 a.Cells.length c1]) (v := .int .i64 a.Cols) k_sc_3 rfl rfl (hS11.cf (i := 1) rfl) rfl) ?_
      refine sq 33 rfl rfl (Y_lt (k := .i64) (a := k_4) (b := a.Cols) rfl rfl rfl) ?_
      refine sq 34 rfl rfl (Y_move (v := .bool (decide (k_4 < a.Cols))) rfl rfl) ?_
      refine sgq 35 (B := (decide (k_4 < a.Cols))) (v := pt B 0) rfl rfl (wt_t (gd_of (t := 34) (by kernel_rfl) rfl)) (fun hg => (Y_move (v := pt B 0) rfl (hf2.get 0 0 rfl))) ?_
      refine sgq 36 (B := (decide (k_4 < a.Cols))) (v := pt B 0) rfl rfl (wt_t (gd_of (t := 34) (by kernel_rfl) rfl)) (fun hg1 => (Y_nilCheck (B := B) (i := 0) rfl (gv_of (B := (decide (k_4 < a.Cols))) (v := pt B 0) hg1))) ?_
      refine sgq 37 (B := (decide (k_4 < a.Cols))) (v := pt B 0) rfl rfl (wt_t (gd_of (t := 34) (by kernel_rfl) rfl)) (fun hg2 => (Y_fieldAddr (B := B) (i := 0) (s := 0) k_fd_96_0_0_4 k_sz_4_1 rfl (gv_of (B := (decide (k_4 < a.Cols))) (v := pt B 0) hg2))) ?_
      refine sgq 38 (B := (decide (k_4 < a.Cols))) (v := .bool bad2) rfl rfl (wt_t (gd_of (t := 34) (by kernel_rfl) rfl)) (fun hg3 => (Y_load1 (B := B) (i := 0) (cs := [.bool bad2]) (v := .bool bad2) k_sc_4 rfl (gv_of (B := (decide (k_4 < a.Cols))) (v := pt B 0) hg3) (hS11.cf (i := 0) rfl) rfl)) ?_
      refine sgq 39 (B := (decide (k_4 < a.Cols))) (v := .bool (!bad2)) rfl rfl (wt_t (gd_of (t := 34) (by kernel_rfl) rfl)) (fun hg4 => (Y_not (p := bad2) rfl (gv_of (B := (decide (k_4 < a.Cols))) (v := .bool bad2) hg4))) ?_
      refine sq 40 rfl rfl (Y_and (b := (decide (k_4 < a.Cols))) (z := (!bad2)) rfl rfl rfl rfl) ?_
      refine rw_nil ?_
      refine cw_cond (b := ((decide (k_4 < a.Cols)) && (!bad2))) rfl (fun hb3 => ?_) (fun hb3 => ?_)
      · skip
        have hF4 := ct hb2 hb3
        refine cw_skip ?_
        refine cw_seq ?_
        refine cw_block ?_
        obtain ⟨x, hx, hF4⟩ := bind_inv hF4
        obtain ⟨x1, hx1, hF4⟩ := bind_inv hF4
        obtain ⟨⟨r_1, m1⟩, hc, hF4⟩ := bind_inv hF4
        obtain ⟨⟨r_2, m2⟩, hc1, hF4⟩ := bind_inv hF4
        refine cw_mid (fun f w => FF f [(0, pt B 0), (4, pt (some ⟨b1, 0, none⟩) 0), (5, pt (some ⟨b2, 0, none⟩) 0), (6, pt (some ⟨b3, 0, none⟩) 0), (7, pt (some ⟨b4, 0, none⟩) 0), (8, .int .i64 (i1 : Int)), (9, .int .i64 (j : Int)), (10, pt (some ⟨b5, 0, none⟩) 0), (11, .int .i64 k_4)] ∧ ST w0 (bl [⟨B, 96, [.bool c.bad], 1⟩]) w [⟨B, 96, [.bool m2.bad], 1⟩, ⟨some ⟨b1, 0, none⟩, 26, [.int .i64 a.Rows, .int .i64 a.Cols, .slice B1 a.Cells.length c1], 3⟩, ⟨some ⟨b2, 0, none⟩, 26, [.int .i64 b.Rows, .int .i64 b.Cols, .slice B2 b.Cells.length c2], 3⟩, ⟨some ⟨b3, 0, none⟩, 26, [.int .i64 0, .int .i64 0, .slice none 0 0], 3⟩, ⟨some ⟨b4, 0, none⟩, 26, [.int .i64 a.Rows, .int .i64 b.Cols, .slice B5 Cells1.length c5], 3⟩, ⟨B5, 44, (Cells1.flatMap enc_Dyadic), c5 * 5⟩, ⟨some ⟨b5, 0, none⟩, 44, [.int .i64 r_2.Num.A, .int .i64 r_2.Num.B, .int .i64 r_2.Num.C, .int .i64 r_2.Num.D, .int .i64 r_2.Exp], 5⟩] [⟨B1, (a.Cells.flatMap enc_Dyadic)⟩, ⟨B2, (b.Cells.flatMap enc_Dyadic)⟩]) ?_ ?_
        · skip
          refine ra_start (ST.sel hS11 [1, 2, 3, 4, 5] rfl rfl).fn (by kernel_rfl) ?_
          have hS15 := hS11.drew
          refine ra_q 0 43 (v := pt B 0) rfl rfl rfl (by kernel_rfl) (by kernel_rfl) (by kernel_rfl) (ST.sel hS15 [1, 2, 3, 4, 5] rfl rfl) (fun w' hw' => (Y_move (v := pt B 0) rfl (hf2.get 0 0 rfl))) ?_
          refine ra_q 2 45 (v := pt B 0) rfl rfl rfl (by kernel_rfl) (by kernel_rfl) (by kernel_rfl) (ST.sel hS15 [1, 2, 3, 4, 5] rfl rfl) (fun w' hw' => (Y_move (v := pt B 0) rfl (hf2.get 0 0 rfl))) ?_
          refine ra_q 3 46 (v := pt (some ⟨b1, 0, none⟩) 2) rfl rfl rfl (by kernel_rfl) (by kernel_rfl) (by kernel_rfl) (ST.sel hS15 [1, 2, 3, 4, 5] rfl rfl) (fun w' hw' => (Y_fieldAddr (B := some ⟨b1, 0, none⟩) (i := 0) (s := 0) k_fd_26_2_2_24 k_sz_24_1 rfl (hf2.get 4 1 rfl))) ?_
          refine ra_q 4 47 (v := .slice B1 a.Cells.length c1) rfl rfl rfl (by kernel_rfl) (by kernel_rfl) (by kernel_rfl) (ST.sel hS15 [1, 2, 3, 4, 5] rfl rfl) (fun w' hw' => (Y_load1 (B := some ⟨b1, 0, none⟩) (i := 2) (cs := [.int .i64 a.Rows, .int .i64 a.Cols, .slice B1 a.Cells.length c1]) (v := .slice B1 a.Cells.length c1) k_sc_24 rfl rfl (ST.cf hw' (i := 0) rfl) rfl)) ?_
          refine ra_q 5 48 (v := .int .i64 (i1 : Int)) rfl rfl rfl (by kernel_rfl) (by kernel_rfl) (by kernel_rfl) (ST.sel hS15 [1, 2, 3, 4, 5] rfl rfl) (fun w' hw' => (Y_move (v := .int .i64 (i1 : Int)) rfl (hf2.get 8 5 rfl))) ?_
          refine ra_q 6 49 (v := pt (some ⟨b1, 0, none⟩) 1) rfl rfl rfl (by kernel_rfl) (by kernel_rfl) (by kernel_rfl) (ST.sel hS15 [1, 2, 3, 4, 5] rfl rfl) (fun w' hw' => (Y_fieldAddr (B := some ⟨b1, 0, none⟩) (i := 0) (s := 0) k_fd_26_1_1_3 k_sz_3_1 rfl (hf2.get 4 1 rfl))) ?_
          refine ra_q 7 50 (v := .int .i64 a.Cols) rfl rfl rfl (by kernel_rfl) (by kernel_rfl) (by kernel_rfl) (ST.sel hS15 [1, 2, 3, 4, 5] rfl rfl) (fun w' hw' => (Y_load1 (B := some ⟨b1, 0, none⟩) (i := 1) (cs := [.int .i64 a.Rows, .int .i64 a.Cols, .slice B1 a.Cells.length c1]) (v := .int .i64 a.Cols) k_sc_3 rfl rfl (ST.cf hw' (i := 0) rfl) rfl)) ?_
          refine ra_q 8 51 (v := .int .i64 (IntKind.i64.wrap ((i1 : Int) * a.Cols))) rfl rfl rfl (by kernel_rfl) (by kernel_rfl) (by kernel_rfl) (ST.sel hS15 [1, 2, 3, 4, 5] rfl rfl) (fun w' hw' => (Y_mul (k := .i64) (a := (i1 : Int)) (b := a.Cols) rfl rfl rfl)) ?_
          refine ra_q 9 52 (v := .int .i64 k_4) rfl rfl rfl (by kernel_rfl) (by kernel_rfl) (by kernel_rfl) (ST.sel hS15 [1, 2, 3, 4, 5] rfl rfl) (fun w' hw' => (Y_move (v := .int .i64 k_4) rfl (hf2.get 11 8 rfl))) ?_
          refine ra_q 10 53 (v := .int .i64 (IntKind.i64.wrap ((IntKind.i64.wrap ((i1 : Int) * a.Cols)) + k_4))) rfl rfl rfl (by kernel_rfl) (by kernel_rfl) (by kernel_rfl) (ST.sel hS15 [1, 2, 3, 4, 5] rfl rfl) (fun w' hw' => (Y_add (k := .i64) (a := (IntKind.i64.wrap ((i1 : Int) * a.Cols))) (b := k_4) rfl rfl rfl)) ?_
          refine ra_q 11 54 (v := pt B1 ((IntKind.i64.wrap ((IntKind.i64.wrap ((i1 : Int) * a.Cols)) + k_4)).toNat * 5)) rfl rfl rfl (by kernel_rfl) (by kernel_rfl) (by kernel_rfl) (ST.sel hS15 [1, 2, 3, 4, 5] rfl rfl) (fun w' hw' => (Y_index (B := B1) (m := a.Cells.length) (c := c1) (k := .i64) (i := (IntKind.i64.wrap ((IntKind.i64.wrap ((i1 : Int) * a.Cols)) + k_4))) k_sl_24_44 k_sz_44_5 rfl rfl rfl (gi_isSome enc_Dyadic_len rfl (ST.rf hw' (i := 0) rfl) hx) (getI_nn hx) (getI_ltI hx rfl))) ?_
          refine ra_q 12 55 (v := .agg #[.int .i64 x.Num.A, .int .i64 x.Num.B, .int .i64 x.Num.C, .int .i64 x.Num.D, .int .i64 x.Exp]) rfl rfl rfl (by kernel_rfl) (by kernel_rfl) (by kernel_rfl) (ST.sel hS15 [1, 2, 3, 4, 5] rfl rfl) (fun w' hw' => (Y_loadA (B := B1) (i := (IntKind.i64.wrap ((IntKind.i64.wrap ((i1 : Int) * a.Cols)) + k_4)).toNat * 5) (cs := (a.Cells.flatMap enc_Dyadic)) (vs := [.int .i64 x.Num.A, .int .i64 x.Num.B, .int .i64 x.Num.C, .int .i64 x.Num.D, .int .i64 x.Exp]) k_ag_44 k_sz_44_5 rfl rfl (ST.rf hw' (i := 0) rfl) (enc_Dyadic_len x) (gi_seg enc_Dyadic_len hx))) ?_
          refine ra_q 13 56 (v := pt (some ⟨b2, 0, none⟩) 2) rfl rfl rfl (by kernel_rfl) (by kernel_rfl) (by kernel_rfl) (ST.sel hS15 [1, 2, 3, 4, 5] rfl rfl) (fun w' hw' => (Y_fieldAddr (B := some ⟨b2, 0, none⟩) (i := 0) (s := 0) k_fd_26_2_2_24 k_sz_24_1 rfl (hf2.get 5 2 rfl))) ?_
          refine ra_q 14 57 (v := .slice B2 b.Cells.length c2) rfl rfl rfl (by kernel_rfl) (by kernel_rfl) (by kernel_rfl) (ST.sel hS15 [1, 2, 3, 4, 5] rfl rfl) (fun w' hw' => (Y_load1 (B := some ⟨b2, 0, none⟩) (i := 2) (cs := [.int .i64 b.Rows, .int .i64 b.Cols, .slice B2 b.Cells.length c2]) (v := .slice B2 b.Cells.length c2) k_sc_24 rfl rfl (ST.cf hw' (i := 1) rfl) rfl)) ?_
          refine ra_q 15 58 (v := .int .i64 k_4) rfl rfl rfl (by kernel_rfl) (by kernel_rfl) (by kernel_rfl) (ST.sel hS15 [1, 2, 3, 4, 5] rfl rfl) (fun w' hw' => (Y_move (v := .int .i64 k_4) rfl (hf2.get 11 8 rfl))) ?_
          refine ra_q 16 59 (v := pt (some ⟨b2, 0, none⟩) 1) rfl rfl rfl (by kernel_rfl) (by kernel_rfl) (by kernel_rfl) (ST.sel hS15 [1, 2, 3, 4, 5] rfl rfl) (fun w' hw' => (Y_fieldAddr (B := some ⟨b2, 0, none⟩) (i := 0) (s := 0) k_fd_26_1_1_3 k_sz_3_1 rfl (hf2.get 5 2 rfl))) ?_
          refine ra_q 17 60 (v := .int .i64 b.Cols) rfl rfl rfl (by kernel_rfl) (by kernel_rfl) (by kernel_rfl) (ST.sel hS15 [1, 2, 3, 4, 5] rfl rfl) (fun w' hw' => (Y_load1 (B := some ⟨b2, 0, none⟩) (i := 1) (cs := [.int .i64 b.Rows, .int .i64 b.Cols, .slice B2 b.Cells.length c2]) (v := .int .i64 b.Cols) k_sc_3 rfl rfl (ST.cf hw' (i := 1) rfl) rfl)) ?_
          refine ra_q 18 61 (v := .int .i64 (IntKind.i64.wrap (k_4 * b.Cols))) rfl rfl rfl (by kernel_rfl) (by kernel_rfl) (by kernel_rfl) (ST.sel hS15 [1, 2, 3, 4, 5] rfl rfl) (fun w' hw' => (Y_mul (k := .i64) (a := k_4) (b := b.Cols) rfl rfl rfl)) ?_
          refine ra_q 19 62 (v := .int .i64 (j : Int)) rfl rfl rfl (by kernel_rfl) (by kernel_rfl) (by kernel_rfl) (ST.sel hS15 [1, 2, 3, 4, 5] rfl rfl) (fun w' hw' => (Y_move (v := .int .i64 (j : Int)) rfl (hf2.get 9 6 rfl))) ?_
          refine ra_q 20 63 (v := .int .i64 (IntKind.i64.wrap ((IntKind.i64.wrap (k_4 * b.Cols)) + (j : Int)))) rfl rfl rfl (by kernel_rfl) (by kernel_rfl) (by kernel_rfl) (ST.sel hS15 [1, 2, 3, 4, 5] rfl rfl) (fun w' hw' => (Y_add (k := .i64) (a := (IntKind.i64.wrap (k_4 * b.Cols))) (b := (j : Int)) rfl rfl rfl)) ?_
          refine ra_q 21 64 (v := pt B2 ((IntKind.i64.wrap ((IntKind.i64.wrap (k_4 * b.Cols)) + (j : Int))).toNat * 5)) rfl rfl rfl (by kernel_rfl) (by kernel_rfl) (by kernel_rfl) (ST.sel hS15 [1, 2, 3, 4, 5] rfl rfl) (fun w' hw' => (Y_index (B := B2) (m := b.Cells.length) (c := c2) (k := .i64) (i := (IntKind.i64.wrap ((IntKind.i64.wrap (k_4 * b.Cols)) + (j : Int)))) k_sl_24_44 k_sz_44_5 rfl rfl rfl (gi_isSome enc_Dyadic_len rfl (ST.rf hw' (i := 1) rfl) hx1) (getI_nn hx1) (getI_ltI hx1 rfl))) ?_
          refine ra_q 22 65 (v := .agg #[.int .i64 x1.Num.A, .int .i64 x1.Num.B, .int .i64 x1.Num.C, .int .i64 x1.Num.D, .int .i64 x1.Exp]) rfl rfl rfl (by kernel_rfl) (by kernel_rfl) (by kernel_rfl) (ST.sel hS15 [1, 2, 3, 4, 5] rfl rfl) (fun w' hw' => (Y_loadA (B := B2) (i := (IntKind.i64.wrap ((IntKind.i64.wrap (k_4 * b.Cols)) + (j : Int))).toNat * 5) (cs := (b.Cells.flatMap enc_Dyadic)) (vs := [.int .i64 x1.Num.A, .int .i64 x1.Num.B, .int .i64 x1.Num.C, .int .i64 x1.Num.D, .int .i64 x1.Exp]) k_ag_44 k_sz_44_5 rfl rfl (ST.rf hw' (i := 1) rfl) (enc_Dyadic_len x1) (gi_seg enc_Dyadic_len hx1))) ?_
          refine ra_all (rs := [1, 23]) (by kernel_rfl) rfl ?_
          refine ra_y 44 (i := 1) (v := .agg #[.int .i64 A, .int .i64 B6, .int .i64 C, .int .i64 D, .int .i64 Exp]) rfl rfl rfl (Y_loadA (B := some ⟨b5, 0, none⟩) (i := 0) (cs := [.int .i64 A, .int .i64 B6, .int .i64 C, .int .i64 D, .int .i64 Exp]) (vs := [.int .i64 A, .int .i64 B6, .int .i64 C, .int .i64 D, .int .i64 Exp]) k_ag_44 k_sz_44_5 rfl (hf2.get 10 7 rfl) (hS15.cf (i := 6) rfl) rfl rfl) (ST.sel hS15 [1, 2, 3, 4, 5] rfl rfl) ?_ ?_
          · skip
            refine ra_all (rs := [23]) (by kernel_rfl) rfl ?_
            refine ra_c 66 (i := 23) rfl rfl rfl (Yc_func (g := 117) (vs := [pt B 0, .agg #[.int .i64 x.Num.A, .int .i64 x.Num.B, .int .i64 x.Num.C, .int .i64 x.Num.D, .int .i64 x.Exp], .agg #[.int .i64 x1.Num.A, .int .i64 x1.Num.B, .int .i64 x1.Num.C, .int .i64 x1.Num.D, .int .i64 x1.Exp]]) k_call_117 rfl (mc rfl (mc rfl (mc rfl mn))) (c_spec_l2C_mul (Tl2C.mk bad2) x x1 B _  (hS15.inn [true, false, false, false, false, false, false] rfl [] rfl) hc)) ?_ ?_
            · rintro _ w_7 ⟨rfl, hd⟩
              have hS16 := hS15.out [true, false, false, false, false, false, false] rfl hd
              have hS16 : ST w0 (bl [⟨B, 96, [.bool c.bad], 1⟩]) _ [⟨some ⟨b1, 0, none⟩, 26, [.int .i64 a.Rows, .int .i64 a.Cols, .slice B1 a.Cells.length c1], 3⟩, ⟨some ⟨b2, 0, none⟩, 26, [.int .i64 b.Rows, .int .i64 b.Cols, .slice B2 b.Cells.length c2], 3⟩, ⟨some ⟨b3, 0, none⟩, 26, [.int .i64 0, .int .i64 0, .slice none 0 0], 3⟩, ⟨some ⟨b4, 0, none⟩, 26, [.int .i64 a.Rows, .int .i64 b.Cols, .slice B5 Cells1.length c5], 3⟩, ⟨B5, 44, (Cells1.flatMap enc_Dyadic), c5 * 5⟩, ⟨some ⟨b5, 0, none⟩, 44, [.int .i64 A, .int .i64 B6, .int .i64 C, .int .i64 D, .int .i64 Exp], 5⟩, ⟨B, 96, [.bool m1.bad], 1⟩] [⟨B1, (a.Cells.flatMap enc_Dyadic)⟩, ⟨B2, (b.Cells.flatMap enc_Dyadic)⟩] := hS16
              refine ⟨(ST.sel hS16 [0, 1, 2, 3, 4] rfl rfl), ?_⟩
              refine ra_all (rs := [24]) (by kernel_rfl) rfl ?_
              refine ra_c 67 (i := 24) rfl rfl rfl (Yc_func (g := 116) (vs := [pt B 0, .agg #[.int .i64 A, .int .i64 B6, .int .i64 C, .int .i64 D, .int .i64 Exp], .agg #[.int .i64 r_1.Num.A, .int .i64 r_1.Num.B, .int .i64 r_1.Num.C, .int .i64 r_1.Num.D, .int .i64 r_1.Exp]]) k_call_116 rfl (mc rfl (mc rfl (mc rfl mn))) (c_spec_l2C_add m1 (TDyadic.mk (TRing.mk A B6 C D) Exp) r_1 B _  (hS16.inn [false, false, false, false, false, false, true] rfl [] rfl) hc1)) ?_ ?_
              · rintro _ w_8 ⟨rfl, hd1⟩
                have hS17 := hS16.out [false, false, false, false, false, false, true] rfl hd1
                have hS17 : ST w0 (bl [⟨B, 96, [.bool c.bad], 1⟩]) _ [⟨some ⟨b1, 0, none⟩, 26, [.int .i64 a.Rows, .int .i64 a.Cols, .slice B1 a.Cells.length c1], 3⟩, ⟨some ⟨b2, 0, none⟩, 26, [.int .i64 b.Rows, .int .i64 b.Cols, .slice B2 b.Cells.length c2], 3⟩, ⟨some ⟨b3, 0, none⟩, 26, [.int .i64 0, .int .i64 0, .slice none 0 0], 3⟩, ⟨some ⟨b4, 0, none⟩, 26, [.int .i64 a.Rows, .int .i64 b.Cols, .slice B5 Cells1.length c5], 3⟩, ⟨B5, 44, (Cells1.flatMap enc_Dyadic), c5 * 5⟩, ⟨some ⟨b5, 0, none⟩, 44, [.int .i64 A, .int .i64 B6, .int .i64 C, .int .i64 D, .int .i64 Exp], 5⟩, ⟨B, 96, [.bool m2.bad], 1⟩] [⟨B1, (a.Cells.flatMap enc_Dyadic)⟩, ⟨B2, (b.Cells.flatMap enc_Dyadic)⟩] := hS17
                refine ⟨(ST.sel hS17 [0, 1, 2, 3, 4] rfl rfl), ?_⟩
                refine ra_all (rs := [25]) (by kernel_rfl) rfl ?_
                refine ra_s0 (i := 25) rfl rfl rfl (Ys_store (i := 5) (s := 5) (B := some ⟨b5, 0, none⟩) (T' := 44) (v := .agg #[.int .i64 r_2.Num.A, .int .i64 r_2.Num.B, .int .i64 r_2.Num.C, .int .i64 r_2.Num.D, .int .i64 r_2.Exp]) (vs := [.int .i64 r_2.Num.A, .int .i64 r_2.Num.B, .int .i64 r_2.Num.C, .int .i64 r_2.Num.D, .int .i64 r_2.Exp]) (k := 0) (cs' := [.int .i64 r_2.Num.A, .int .i64 r_2.Num.B, .int .i64 r_2.Num.C, .int .i64 r_2.Num.D, .int .i64 r_2.Exp]) hS17 k_sz_44_5 rfl (hf2.get 10 7 rfl) rfl rfl rfl rfl rfl (Nat.le_of_ble_eq_true rfl) rfl rfl) ?_ ?_
                · rintro _ w_9 ⟨rfl, hS18⟩
                  have hS18 : ST w0 (bl [⟨B, 96, [.bool c.bad], 1⟩]) _ [⟨some ⟨b1, 0, none⟩, 26, [.int .i64 a.Rows, .int .i64 a.Cols, .slice B1 a.Cells.length c1], 3⟩, ⟨some ⟨b2, 0, none⟩, 26, [.int .i64 b.Rows, .int .i64 b.Cols, .slice B2 b.Cells.length c2], 3⟩, ⟨some ⟨b3, 0, none⟩, 26, [.int .i64 0, .int .i64 0, .slice none 0 0], 3⟩, ⟨some ⟨b4, 0, none⟩, 26, [.int .i64 a.Rows, .int .i64 b.Cols, .slice B5 Cells1.length c5], 3⟩, ⟨B5, 44, (Cells1.flatMap enc_Dyadic), c5 * 5⟩, ⟨some ⟨b5, 0, none⟩, 44, [.int .i64 r_2.Num.A, .int .i64 r_2.Num.B, .int .i64 r_2.Num.C, .int .i64 r_2.Num.D, .int .i64 r_2.Exp], 5⟩, ⟨B, 96, [.bool m2.bad], 1⟩] [⟨B1, (a.Cells.flatMap enc_Dyadic)⟩, ⟨B2, (b.Cells.flatMap enc_Dyadic)⟩] := hS18
                  refine ⟨(ST.sel hS18 [0, 1, 2, 3, 4] rfl rfl), ?_⟩
                  refine ra_done (by kernel_rfl) ?_
                  exact ⟨(FF.cons (hf2.get 0 0 rfl) (FF.cons (hf2.get 4 1 rfl) (FF.cons (hf2.get 5 2 rfl) (FF.cons (hf2.get 6 3 rfl) (FF.cons (hf2.get 7 4 rfl) (FF.cons (hf2.get 8 5 rfl) (FF.cons (hf2.get 9 6 rfl) (FF.cons (hf2.get 10 7 rfl) (FF.cons (hf2.get 11 8 rfl) FF.nil))))))))), (hS18.sel [6, 0, 1, 2, 3, 4, 5] rfl rfl)⟩
                exact allR_nil
              exact allR_nil
            exact allR_nil
          refine ra_c 66 (i := 23) rfl rfl rfl (Yc_func (g := 117) (vs := [pt B 0, .agg #[.int .i64 x.Num.A, .int .i64 x.Num.B, .int .i64 x.Num.C, .int .i64 x.Num.D, .int .i64 x.Exp], .agg #[.int .i64 x1.Num.A, .int .i64 x1.Num.B, .int .i64 x1.Num.C, .int .i64 x1.Num.D, .int .i64 x1.Exp]]) k_call_117 rfl (mc rfl (mc rfl (mc rfl mn))) (c_spec_l2C_mul (Tl2C.mk bad2) x x1 B _  (hS15.inn [true, false, false, false, false, false, false] rfl [] rfl) hc)) ?_ ?_
          · rintro _ w_10 ⟨rfl, hd2⟩
            have hS19 := hS15.out [true, false, false, false, false, false, false] rfl hd2
            have hS19 : ST w0 (bl [⟨B, 96, [.bool c.bad], 1⟩]) _ [⟨some ⟨b1, 0, none⟩, 26, [.int .i64 a.Rows, .int .i64 a.Cols, .slice B1 a.Cells.length c1], 3⟩, ⟨some ⟨b2, 0, none⟩, 26, [.int .i64 b.Rows, .int .i64 b.Cols, .slice B2 b.Cells.length c2], 3⟩, ⟨some ⟨b3, 0, none⟩, 26, [.int .i64 0, .int .i64 0, .slice none 0 0], 3⟩, ⟨some ⟨b4, 0, none⟩, 26, [.int .i64 a.Rows, .int .i64 b.Cols, .slice B5 Cells1.length c5], 3⟩, ⟨B5, 44, (Cells1.flatMap enc_Dyadic), c5 * 5⟩, ⟨some ⟨b5, 0, none⟩, 44, [.int .i64 A, .int .i64 B6, .int .i64 C, .int .i64 D, .int .i64 Exp], 5⟩, ⟨B, 96, [.bool m1.bad], 1⟩] [⟨B1, (a.Cells.flatMap enc_Dyadic)⟩, ⟨B2, (b.Cells.flatMap enc_Dyadic)⟩] := hS19
            refine ⟨(ST.sel hS19 [0, 1, 2, 3, 4] rfl rfl), ?_⟩
            refine ra_all (rs := [1]) (by kernel_rfl) rfl ?_
            refine ra_y 44 (i := 1) (v := .agg #[.int .i64 A, .int .i64 B6, .int .i64 C, .int .i64 D, .int .i64 Exp]) rfl rfl rfl (Y_loadA (B := some ⟨b5, 0, none⟩) (i := 0) (cs := [.int .i64 A, .int .i64 B6, .int .i64 C, .int .i64 D, .int .i64 Exp]) (vs := [.int .i64 A, .int .i64 B6, .int .i64 C, .int .i64 D, .int .i64 Exp]) k_ag_44 k_sz_44_5 rfl (hf2.get 10 7 rfl) (hS19.cf (i := 5) rfl) rfl rfl) (ST.sel hS19 [0, 1, 2, 3, 4] rfl rfl) ?_ ?_
            · skip
              refine ra_all (rs := [24]) (by kernel_rfl) rfl ?_
              refine ra_c 67 (i := 24) rfl rfl rfl (Yc_func (g := 116) (vs := [pt B 0, .agg #[.int .i64 A, .int .i64 B6, .int .i64 C, .int .i64 D, .int .i64 Exp], .agg #[.int .i64 r_1.Num.A, .int .i64 r_1.Num.B, .int .i64 r_1.Num.C, .int .i64 r_1.Num.D, .int .i64 r_1.Exp]]) k_call_116 rfl (mc rfl (mc rfl (mc rfl mn))) (c_spec_l2C_add m1 (TDyadic.mk (TRing.mk A B6 C D) Exp) r_1 B _  (hS19.inn [false, false, false, false, false, false, true] rfl [] rfl) hc1)) ?_ ?_
              · rintro _ w_11 ⟨rfl, hd3⟩
                have hS20 := hS19.out [false, false, false, false, false, false, true] rfl hd3
                have hS20 : ST w0 (bl [⟨B, 96, [.bool c.bad], 1⟩]) _ [⟨some ⟨b1, 0, none⟩, 26, [.int .i64 a.Rows, .int .i64 a.Cols, .slice B1 a.Cells.length c1], 3⟩, ⟨some ⟨b2, 0, none⟩, 26, [.int .i64 b.Rows, .int .i64 b.Cols, .slice B2 b.Cells.length c2], 3⟩, ⟨some ⟨b3, 0, none⟩, 26, [.int .i64 0, .int .i64 0, .slice none 0 0], 3⟩, ⟨some ⟨b4, 0, none⟩, 26, [.int .i64 a.Rows, .int .i64 b.Cols, .slice B5 Cells1.length c5], 3⟩, ⟨B5, 44, (Cells1.flatMap enc_Dyadic), c5 * 5⟩, ⟨some ⟨b5, 0, none⟩, 44, [.int .i64 A, .int .i64 B6, .int .i64 C, .int .i64 D, .int .i64 Exp], 5⟩, ⟨B, 96, [.bool m2.bad], 1⟩] [⟨B1, (a.Cells.flatMap enc_Dyadic)⟩, ⟨B2, (b.Cells.flatMap enc_Dyadic)⟩] := hS20
                refine ⟨(ST.sel hS20 [0, 1, 2, 3, 4] rfl rfl), ?_⟩
                refine ra_all (rs := [25]) (by kernel_rfl) rfl ?_
                refine ra_s0 (i := 25) rfl rfl rfl (Ys_store (i := 5) (s := 5) (B := some ⟨b5, 0, none⟩) (T' := 44) (v := .agg #[.int .i64 r_2.Num.A, .int .i64 r_2.Num.B, .int .i64 r_2.Num.C, .int .i64 r_2.Num.D, .int .i64 r_2.Exp]) (vs := [.int .i64 r_2.Num.A, .int .i64 r_2.Num.B, .int .i64 r_2.Num.C, .int .i64 r_2.Num.D, .int .i64 r_2.Exp]) (k := 0) (cs' := [.int .i64 r_2.Num.A, .int .i64 r_2.Num.B, .int .i64 r_2.Num.C, .int .i64 r_2.Num.D, .int .i64 r_2.Exp]) hS20 k_sz_44_5 rfl (hf2.get 10 7 rfl) rfl rfl rfl rfl rfl (Nat.le_of_ble_eq_true rfl) rfl rfl) ?_ ?_
                · rintro _ w_12 ⟨rfl, hS21⟩
                  have hS21 : ST w0 (bl [⟨B, 96, [.bool c.bad], 1⟩]) _ [⟨some ⟨b1, 0, none⟩, 26, [.int .i64 a.Rows, .int .i64 a.Cols, .slice B1 a.Cells.length c1], 3⟩, ⟨some ⟨b2, 0, none⟩, 26, [.int .i64 b.Rows, .int .i64 b.Cols, .slice B2 b.Cells.length c2], 3⟩, ⟨some ⟨b3, 0, none⟩, 26, [.int .i64 0, .int .i64 0, .slice none 0 0], 3⟩, ⟨some ⟨b4, 0, none⟩, 26, [.int .i64 a.Rows, .int .i64 b.Cols, .slice B5 Cells1.length c5], 3⟩, ⟨B5, 44, (Cells1.flatMap enc_Dyadic), c5 * 5⟩, ⟨some ⟨b5, 0, none⟩, 44, [.int .i64 r_2.Num.A, .int .i64 r_2.Num.B, .int .i64 r_2.Num.C, .int .i64 r_2.Num.D, .int .i64 r_2.Exp], 5⟩, ⟨B, 96, [.bool m2.bad], 1⟩] [⟨B1, (a.Cells.flatMap enc_Dyadic)⟩, ⟨B2, (b.Cells.flatMap enc_Dyadic)⟩] := hS21
                  refine ⟨(ST.sel hS21 [0, 1, 2, 3, 4] rfl rfl), ?_⟩
                  refine ra_done (by kernel_rfl) ?_
                  exact ⟨(FF.cons (hf2.get 0 0 rfl) (FF.cons (hf2.get 4 1 rfl) (FF.cons (hf2.get 5 2 rfl) (FF.cons (hf2.get 6 3 rfl) (FF.cons (hf2.get 7 4 rfl) (FF.cons (hf2.get 8 5 rfl) (FF.cons (hf2.get 9 6 rfl) (FF.cons (hf2.get 10 7 rfl) (FF.cons (hf2.get 11 8 rfl) FF.nil))))))))), (hS21.sel [6, 0, 1, 2, 3, 4, 5] rfl rfl)⟩
                exact allR_nil
              exact allR_nil
            exact allR_nil
          exact allR_nil
        rintro f w ⟨hf3, hS14⟩
        refine cw_region ?_
        refine sq 41 rfl rfl (Y_move (v := .int .i64 k_4) rfl (hf3.get 11 8 rfl)) ?_
        refine sq 42 rfl rfl (Y_add (k := .i64) (a := k_4) (b := 1) rfl rfl rfl) ?_
        refine sq 11 rfl rfl (Y_assign (v := .int .i64 (IntKind.i64.wrap (k_4 + 1))) rfl rfl) ?_
        refine rw_nil ?_
        obtain rfl := some_inj hF4
        exact ⟨k_6, Nat.lt_succ_self _, m2.bad, r_2.Num.A, r_2.Num.B, r_2.Num.C, r_2.Num.D, r_2.Exp, (IntKind.i64.wrap (k_4 + 1)), (FF.cons (hf3.get 0 0 rfl) (FF.cons (hf3.get 4 1 rfl) (FF.cons (hf3.get 5 2 rfl) (FF.cons (hf3.get 6 3 rfl) (FF.cons (hf3.get 7 4 rfl) (FF.cons (hf3.get 8 5 rfl) (FF.cons (hf3.get 9 6 rfl) (FF.cons (hf3.get 10 7 rfl) (FF.cons rfl FF.nil))))))))), (hS14.sel [0, 1, 2, 3, 4, 5, 6] rfl rfl), hL5⟩
      · skip
        have hF5 := cf' hb2 hb3
        refine cw_exit rfl ?_
        obtain rfl := some_inj hF5
        obtain rfl := some_inj hL5
        refine cw_region ?_
        refine sq 68 rfl rfl (Y_fieldAddr (B := some ⟨b4, 0, none⟩) (i := 0) (s := 0) k_fd_26_2_2_24 k_sz_24_1 rfl (hf2.get 7 4 rfl)) ?_
        refine sq 69 rfl rfl (Y_load1 (B := some ⟨b4, 0, none⟩) (i := 2) (cs := [.int .i64 a.Rows, .int .i64 b.Cols, .slice B5 Cells1.length c5]) (v := .slice B5 Cells1.length c5) k_sc_24 rfl rfl (hS11.cf (i := 4) rfl) rfl) ?_
        refine sq 70 rfl rfl (Y_loadA (B := some ⟨b5, 0, none⟩) (i := 0) (cs := [.int .i64 A, .int .i64 B6, .int .i64 C, .int .i64 D, .int .i64 Exp]) (vs := [.int .i64 A, .int .i64 B6, .int .i64 C, .int .i64 D, .int .i64 Exp]) k_ag_44 k_sz_44_5 rfl (hf2.get 10 7 rfl) (hS11.cf (i := 6) rfl) rfl rfl) ?_
        refine ss 71 rfl rfl (Ys_bslice (s := 5) (len := 1) (vs := [(0, .agg #[.int .i64 A, .int .i64 B6, .int .i64 C, .int .i64 D, .int .i64 Exp])]) (cs := [.int .i64 A, .int .i64 B6, .int .i64 C, .int .i64 D, .int .i64 Exp]) (zs := [.int .i64 0, .int .i64 0, .int .i64 0, .int .i64 0, .int .i64 0]) (m := 5) hS11 k_sl_24_44 k_sz_44_5 k_zc_44 rfl (mpc rfl mpn) rfl rfl rfl (by kernel_rfl) (by kernel_rfl) rfl) ?_
        rintro _ w_13 ⟨b6, rfl, hS22⟩
        have hS22 : ST w0 (bl [⟨B, 96, [.bool c.bad], 1⟩]) _ [⟨B, 96, [.bool bad2], 1⟩, ⟨some ⟨b1, 0, none⟩, 26, [.int .i64 a.Rows, .int .i64 a.Cols, .slice B1 a.Cells.length c1], 3⟩, ⟨some ⟨b2, 0, none⟩, 26, [.int .i64 b.Rows, .int .i64 b.Cols, .slice B2 b.Cells.length c2], 3⟩, ⟨some ⟨b3, 0, none⟩, 26, [.int .i64 0, .int .i64 0, .slice none 0 0], 3⟩, ⟨some ⟨b4, 0, none⟩, 26, [.int .i64 a.Rows, .int .i64 b.Cols, .slice B5 Cells1.length c5], 3⟩, ⟨B5, 44, (Cells1.flatMap enc_Dyadic), c5 * 5⟩, ⟨some ⟨b5, 0, none⟩, 44, [.int .i64 A, .int .i64 B6, .int .i64 C, .int .i64 D, .int .i64 Exp], 5⟩, ⟨some ⟨b6, 0, none⟩, 44, ([(TDyadic.mk (TRing.mk A B6 C D) Exp)].flatMap enc_Dyadic), 1 * 5⟩] [⟨B1, (a.Cells.flatMap enc_Dyadic)⟩, ⟨B2, (b.Cells.flatMap enc_Dyadic)⟩] := hS22
        obtain ⟨hap, hF3⟩ := chk_inv hF3
        refine ss 72 rfl rfl (Ys_append (s := 5) (by' := 40) (i := 5) (nn := Cells1.length) (c := c5) (k := 1) (len := (Cells1 ++ [(TDyadic.mk (TRing.mk A B6 C D) Exp)]).length) (B := B5) (xs := ([(TDyadic.mk (TRing.mk A B6 C D) Exp)].flatMap enc_Dyadic)) (cs' := ((Cells1 ++ [(TDyadic.mk (TRing.mk A B6 C D) Exp)]).flatMap enc_Dyadic)) hS22 k_sl_24_44 k_sz_44_5 k_by_44_40 k_zero_44 rfl (by decide) rfl rfl rfl rfl (fm_lenn (l := Cells1) enc_Dyadic_len rfl) rfl (hS22.cf (i := 7) rfl) (fm_lenn (l := [(TDyadic.mk (TRing.mk A B6 C D) Exp)]) enc_Dyadic_len rfl) (fm_one' (enc := enc_Dyadic) enc_Dyadic_one [(TDyadic.mk (TRing.mk A B6 C D) Exp)]) (by have := hap; omega) (by have := hap; simp only [maxLen]; omega) (fm_app _ _) (app_len (l := Cells1) (l' := [(TDyadic.mk (TRing.mk A B6 C D) Exp)]) rfl rfl)) ?_
        rintro _ w_14 ⟨B7, c6, rfl, hS23⟩
        have hS23 : ST w0 (bl [⟨B, 96, [.bool c.bad], 1⟩]) _ [⟨B, 96, [.bool bad2], 1⟩, ⟨some ⟨b1, 0, none⟩, 26, [.int .i64 a.Rows, .int .i64 a.Cols, .slice B1 a.Cells.length c1], 3⟩, ⟨some ⟨b2, 0, none⟩, 26, [.int .i64 b.Rows, .int .i64 b.Cols, .slice B2 b.Cells.length c2], 3⟩, ⟨some ⟨b3, 0, none⟩, 26, [.int .i64 0, .int .i64 0, .slice none 0 0], 3⟩, ⟨some ⟨b4, 0, none⟩, 26, [.int .i64 a.Rows, .int .i64 b.Cols, .slice B5 Cells1.length c5], 3⟩, ⟨B7, 44, ((Cells1 ++ [(TDyadic.mk (TRing.mk A B6 C D) Exp)]).flatMap enc_Dyadic), c6 * 5⟩, ⟨some ⟨b5, 0, none⟩, 44, [.int .i64 A, .int .i64 B6, .int .i64 C, .int .i64 D, .int .i64 Exp], 5⟩, ⟨some ⟨b6, 0, none⟩, 44, ([(TDyadic.mk (TRing.mk A B6 C D) Exp)].flatMap enc_Dyadic), 1 * 5⟩] [⟨B1, (a.Cells.flatMap enc_Dyadic)⟩, ⟨B2, (b.Cells.flatMap enc_Dyadic)⟩] := hS23
        refine sq 73 rfl rfl (Y_fieldAddr (B := some ⟨b4, 0, none⟩) (i := 0) (s := 0) k_fd_26_2_2_24 k_sz_24_1 rfl (hf2.get 7 4 rfl)) ?_
        refine ss0 rfl rfl (Ys_store (i := 4) (s := 1) (B := some ⟨b4, 0, none⟩) (T' := 26) (v := .slice B7 ((Cells1 ++ [(TDyadic.mk (TRing.mk A B6 C D) Exp)]).length) c6) (vs := [.slice B7 ((Cells1 ++ [(TDyadic.mk (TRing.mk A B6 C D) Exp)]).length) c6]) (k := 2) (cs' := [.int .i64 a.Rows, .int .i64 b.Cols, .slice B7 ((Cells1 ++ [(TDyadic.mk (TRing.mk A B6 C D) Exp)]).length) c6]) hS23 k_sz_24_1 rfl rfl rfl rfl rfl rfl rfl (Nat.le_of_ble_eq_true rfl) rfl rfl) ?_
        rintro _ w_15 ⟨rfl, hS24⟩
        have hS24 : ST w0 (bl [⟨B, 96, [.bool c.bad], 1⟩]) _ [⟨B, 96, [.bool bad2], 1⟩, ⟨some ⟨b1, 0, none⟩, 26, [.int .i64 a.Rows, .int .i64 a.Cols, .slice B1 a.Cells.length c1], 3⟩, ⟨some ⟨b2, 0, none⟩, 26, [.int .i64 b.Rows, .int .i64 b.Cols, .slice B2 b.Cells.length c2], 3⟩, ⟨some ⟨b3, 0, none⟩, 26, [.int .i64 0, .int .i64 0, .slice none 0 0], 3⟩, ⟨some ⟨b4, 0, none⟩, 26, [.int .i64 a.Rows, .int .i64 b.Cols, .slice B7 ((Cells1 ++ [(TDyadic.mk (TRing.mk A B6 C D) Exp)]).length) c6], 3⟩, ⟨B7, 44, ((Cells1 ++ [(TDyadic.mk (TRing.mk A B6 C D) Exp)]).flatMap enc_Dyadic), c6 * 5⟩, ⟨some ⟨b5, 0, none⟩, 44, [.int .i64 A, .int .i64 B6, .int .i64 C, .int .i64 D, .int .i64 Exp], 5⟩, ⟨some ⟨b6, 0, none⟩, 44, ([(TDyadic.mk (TRing.mk A B6 C D) Exp)].flatMap enc_Dyadic), 1 * 5⟩] [⟨B1, (a.Cells.flatMap enc_Dyadic)⟩, ⟨B2, (b.Cells.flatMap enc_Dyadic)⟩] := hS24
        refine rw_nil ?_
        refine cw_region ?_
        refine sq 27 rfl rfl (Y_move (v := .int .i64 (j : Int)) rfl (hf2.get 9 6 rfl)) ?_
        refine sq 28 rfl rfl (Y_add (k := .i64) (a := (j : Int)) (b := 1) rfl rfl rfl) ?_
        refine sq 9 rfl rfl (Y_assign (v := .int .i64 (IntKind.i64.wrap ((j : Int) + 1))) rfl rfl) ?_
        refine rw_nil ?_
        obtain rfl := some_inj hF3
        exact ⟨k_3, Nat.lt_succ_self _, j + 1, bad2, (Cells1 ++ [(TDyadic.mk (TRing.mk A B6 C D) Exp)]), B7, c6, (FF.cons (hf2.get 0 0 rfl) (FF.cons (hf2.get 4 1 rfl) (FF.cons (hf2.get 5 2 rfl) (FF.cons (hf2.get 6 3 rfl) (FF.cons (hf2.get 7 4 rfl) (FF.cons (hf2.get 8 5 rfl) (FF.cons (congrArg (Value.int .i64) (wr_succ hlt3 hN1)) FF.nil))))))), (hS24.sel [0, 1, 2, 3, 4, 5] rfl rfl), (by omega), hL3⟩
    · skip
      obtain rfl : k_2 = 0 := by have h := of_decide_eq_false hlt2; omega
      refine cw_exit rfl ?_
      obtain rfl := some_inj hL2
      refine cw_region ?_
      refine sq 21 rfl rfl (Y_move (v := .int .i64 (i1 : Int)) rfl (hf1.get 8 5 rfl)) ?_
      refine sq 22 rfl rfl (Y_add (k := .i64) (a := (i1 : Int)) (b := 1) rfl rfl rfl) ?_
      refine sq 8 rfl rfl (Y_assign (v := .int .i64 (IntKind.i64.wrap ((i1 : Int) + 1))) rfl rfl) ?_
      refine rw_nil ?_
      obtain rfl := some_inj hF2
      exact ⟨k_1, Nat.lt_succ_self _, i1 + 1, bad1, Cells1, B5, c5, (FF.cons (hf1.get 0 0 rfl) (FF.cons (hf1.get 4 1 rfl) (FF.cons (hf1.get 5 2 rfl) (FF.cons (hf1.get 6 3 rfl) (FF.cons (hf1.get 7 4 rfl) (FF.cons (congrArg (Value.int .i64) (wr_succ hlt1 hN)) FF.nil)))))), (hS8.sel [0, 1, 2, 3, 4, 5] rfl rfl), (by omega), hL1⟩
  · skip
    obtain rfl : k_ = 0 := by have h := of_decide_eq_false hlt; omega
    refine cw_exit rfl ?_
    obtain rfl := some_inj hL
    refine cw_seq ?_
    refine cw_region ?_
    refine sq 74 rfl rfl (Y_loadA (B := some ⟨b4, 0, none⟩) (i := 0) (cs := [.int .i64 a.Rows, .int .i64 b.Cols, .slice B4 Cells.length c4]) (vs := [.int .i64 a.Rows, .int .i64 b.Cols, .slice B4 Cells.length c4]) k_ag_26 k_sz_26_3 rfl (hf.get 7 4 rfl) (hS6.cf (i := 4) rfl) rfl rfl) ?_
    refine ss0 rfl rfl (Ys_store (i := 3) (s := 3) (B := some ⟨b3, 0, none⟩) (T' := 26) (v := .agg #[.int .i64 a.Rows, .int .i64 b.Cols, .slice B4 Cells.length c4]) (vs := [.int .i64 a.Rows, .int .i64 b.Cols, .slice B4 Cells.length c4]) (k := 0) (cs' := [.int .i64 a.Rows, .int .i64 b.Cols, .slice B4 Cells.length c4]) hS6 k_sz_26_3 rfl (hf.get 6 3 rfl) rfl rfl rfl rfl rfl (Nat.le_of_ble_eq_true rfl) rfl rfl) ?_
    rintro _ w_16 ⟨rfl, hS25⟩
    have hS25 : ST w0 (bl [⟨B, 96, [.bool c.bad], 1⟩]) _ [⟨B, 96, [.bool bad], 1⟩, ⟨some ⟨b1, 0, none⟩, 26, [.int .i64 a.Rows, .int .i64 a.Cols, .slice B1 a.Cells.length c1], 3⟩, ⟨some ⟨b2, 0, none⟩, 26, [.int .i64 b.Rows, .int .i64 b.Cols, .slice B2 b.Cells.length c2], 3⟩, ⟨some ⟨b3, 0, none⟩, 26, [.int .i64 a.Rows, .int .i64 b.Cols, .slice B4 Cells.length c4], 3⟩, ⟨some ⟨b4, 0, none⟩, 26, [.int .i64 a.Rows, .int .i64 b.Cols, .slice B4 Cells.length c4], 3⟩, ⟨B4, 44, (Cells.flatMap enc_Dyadic), c4 * 5⟩] [⟨B1, (a.Cells.flatMap enc_Dyadic)⟩, ⟨B2, (b.Cells.flatMap enc_Dyadic)⟩] := hS25
    refine rw_nil ?_
    refine cw_ret ?_
    obtain ⟨rfl, rfl⟩ := pr2 (some_inj hF1)
    exact ret1 Try.results63 (v1 := .agg #[.int .i64 a.Rows, .int .i64 b.Cols, .slice B4 Cells.length c4]) (resAt_cellA (B := some ⟨b3, 0, none⟩) (i := 0) (cs := [.int .i64 a.Rows, .int .i64 b.Cols, .slice B4 Cells.length c4]) (vs := [.int .i64 a.Rows, .int .i64 b.Cols, .slice B4 Cells.length c4]) (hf.get 6 3 rfl) k_ag_26 k_sz_26_3 (hS25.cf (i := 3) rfl) rfl rfl) ⟨B4, c4, rfl, (ST.subR (R' := []) (hS25.sel [0, 5] rfl rfl) (fun _ h => by cases h))⟩

theorem c_spec_MulMatrix (a : TMatrix) (b : TMatrix) (B : Option Addr) (c n : Nat) (B1 : Option Addr) (c1 n1 : Nat) (w0 : World) (hn : a.Cells.length = n) (hn1 : b.Cells.length = n1) (hS : ST w0 [] w0 [] [⟨B, (a.Cells.flatMap enc_Dyadic)⟩, ⟨B1, (b.Cells.flatMap enc_Dyadic)⟩]) {r_ : TMatrix} {r_1 : Bool} (hF : F_spec_MulMatrix a b = some (r_, r_1)) :
    CV Try.prog 16 #[.agg #[.int .i64 a.Rows, .int .i64 a.Cols, .slice B n c], .agg #[.int .i64 b.Rows, .int .i64 b.Cols, .slice B1 n1 c1]] w0 (fun v w' => ∃ (B2 : Option Addr) (c2 : Nat), v = .tuple #[.agg #[.int .i64 r_.Rows, .int .i64 r_.Cols, .slice B2 r_.Cells.length c2], .bool r_1] ∧ ST w0 [] w' [⟨B2, 44, (r_.Cells.flatMap enc_Dyadic), c2 * 5⟩] []) := by
  subst hn
  subst hn1
  unfold F_spec_MulMatrix at hF
  refine cv_of_cw 33 Try.func16 rfl Try.ntmps16 rfl ?_
  refine cw_seq ?_
  refine cw_region ?_
  refine ss 2 rfl rfl (Ys_box (T := 26) (v := .agg #[.int .i64 a.Rows, .int .i64 a.Cols, .slice B a.Cells.length c]) (cs := [.int .i64 a.Rows, .int .i64 a.Cols, .slice B a.Cells.length c]) (m := 3) hS rfl rfl rfl rfl) ?_
  rintro _ w_ ⟨b1, rfl, hS1⟩
  refine ss 3 rfl rfl (Ys_box (T := 26) (v := .agg #[.int .i64 b.Rows, .int .i64 b.Cols, .slice B1 b.Cells.length c1]) (cs := [.int .i64 b.Rows, .int .i64 b.Cols, .slice B1 b.Cells.length c1]) (m := 3) hS1 rfl rfl rfl rfl) ?_
  rintro _ w_1 ⟨b2, rfl, hS2⟩
  have hS2 : ST w0 [] _ [⟨some ⟨b1, 0, none⟩, 26, [.int .i64 a.Rows, .int .i64 a.Cols, .slice B a.Cells.length c], 3⟩, ⟨some ⟨b2, 0, none⟩, 26, [.int .i64 b.Rows, .int .i64 b.Cols, .slice B1 b.Cells.length c1], 3⟩] [⟨B, (a.Cells.flatMap enc_Dyadic)⟩, ⟨B1, (b.Cells.flatMap enc_Dyadic)⟩] := hS2
  refine ss 4 rfl rfl (Ys_alloc (T := 26) (cs := [.int .i64 0, .int .i64 0, .slice none 0 0]) (m := 3) hS2 k_zero_26 rfl rfl rfl) ?_
  rintro _ w_2 ⟨b3, rfl, hS3⟩
  have hS3 : ST w0 [] _ [⟨some ⟨b1, 0, none⟩, 26, [.int .i64 a.Rows, .int .i64 a.Cols, .slice B a.Cells.length c], 3⟩, ⟨some ⟨b2, 0, none⟩, 26, [.int .i64 b.Rows, .int .i64 b.Cols, .slice B1 b.Cells.length c1], 3⟩, ⟨some ⟨b3, 0, none⟩, 26, [.int .i64 0, .int .i64 0, .slice none 0 0], 3⟩] [⟨B, (a.Cells.flatMap enc_Dyadic)⟩, ⟨B1, (b.Cells.flatMap enc_Dyadic)⟩] := hS3
  refine sq 5 rfl rfl (Y_assign (v := .bool false) rfl rfl) ?_
  refine rw_nil ?_
  refine cw_seq ?_
  refine cw_seq ?_
  refine cw_region ?_
  refine sq 7 rfl rfl (Y_loadA (B := some ⟨b1, 0, none⟩) (i := 0) (cs := [.int .i64 a.Rows, .int .i64 a.Cols, .slice B a.Cells.length c]) (vs := [.int .i64 a.Rows, .int .i64 a.Cols, .slice B a.Cells.length c]) k_ag_26 k_sz_26_3 rfl rfl (hS3.cf (i := 0) rfl) rfl rfl) ?_
  obtain ⟨r_2, hc, hF⟩ := bind_inv hF
  refine sc 8 rfl rfl (Yc_func (g := 61) (vs := [.agg #[.int .i64 a.Rows, .int .i64 a.Cols, .slice B a.Cells.length c]]) k_call_61 rfl (mc rfl mn) (c_spec_l3Good a B c a.Cells.length _ rfl (hS3.inn0 [(true, 0)] rfl) hc)) ?_
  rintro _ w_3 ⟨rfl, hd⟩
  have hS4 := hS3.out00 hd
  have hS4 : ST w0 [] _ [⟨some ⟨b1, 0, none⟩, 26, [.int .i64 a.Rows, .int .i64 a.Cols, .slice B a.Cells.length c], 3⟩, ⟨some ⟨b2, 0, none⟩, 26, [.int .i64 b.Rows, .int .i64 b.Cols, .slice B1 b.Cells.length c1], 3⟩, ⟨some ⟨b3, 0, none⟩, 26, [.int .i64 0, .int .i64 0, .slice none 0 0], 3⟩] [⟨B, (a.Cells.flatMap enc_Dyadic)⟩, ⟨B1, (b.Cells.flatMap enc_Dyadic)⟩] := hS4
  refine sq 9 rfl rfl (Y_not (p := r_2) rfl rfl) ?_
  refine sq 10 rfl rfl (Y_move (v := .bool (!r_2)) rfl rfl) ?_
  refine sgq 11 (B := (!(!r_2))) (v := .agg #[.int .i64 b.Rows, .int .i64 b.Cols, .slice B1 b.Cells.length c1]) rfl rfl (wt_f (gd_of (t := 10) (by kernel_rfl) rfl)) (fun hg => (Y_loadA (B := some ⟨b2, 0, none⟩) (i := 0) (cs := [.int .i64 b.Rows, .int .i64 b.Cols, .slice B1 b.Cells.length c1]) (vs := [.int .i64 b.Rows, .int .i64 b.Cols, .slice B1 b.Cells.length c1]) k_ag_26 k_sz_26_3 rfl rfl (hS4.cf (i := 1) rfl) rfl rfl)) ?_
  obtain ⟨r_3, hc1, hF⟩ := bind_inv hF
  refine sgc 12 (B := (!(!r_2))) (v := .bool r_3) (F := hS4.fn) rfl rfl (wt_f (gd_of (t := 10) (by kernel_rfl) rfl)) hS4 (fun hg1 => (Yc_func (g := 61) (vs := [.agg #[.int .i64 b.Rows, .int .i64 b.Cols, .slice B1 b.Cells.length c1]]) k_call_61 rfl (mc (gv_of (B := (!(!r_2))) (v := .agg #[.int .i64 b.Rows, .int .i64 b.Cols, .slice B1 b.Cells.length c1]) hg1) mn) (CV.mono (c_spec_l3Good b B1 c1 b.Cells.length _ rfl (hS4.inn0 [(true, 1)] rfl) (gb_inv hc1 hg1)) (by rintro _ _ ⟨rfl, h⟩; exact ⟨rfl, hS4.out00 h⟩)))) ?_
  rintro w_4 hS5
  have hS5 : ST _ _ w_4 _ _ := hS5
  refine sgq 13 (B := (!(!r_2))) (v := .bool (!r_3)) rfl rfl (wt_f (gd_of (t := 10) (by kernel_rfl) rfl)) (fun hg2 => (Y_not (p := r_3) rfl (gv_of (B := (!(!r_2))) (v := .bool r_3) hg2))) ?_
  refine sq 14 rfl rfl (Y_or (b := (!r_2)) (z := (!r_3)) rfl rfl rfl rfl) ?_
  refine sq 15 rfl rfl (Y_move (v := .bool ((!r_2) || (!r_3))) rfl rfl) ?_
  refine sgq 16 (B := (!((!r_2) || (!r_3)))) (v := pt (some ⟨b1, 0, none⟩) 1) rfl rfl (wt_f (gd_of (t := 15) (by kernel_rfl) rfl)) (fun hg3 => (Y_fieldAddr (B := some ⟨b1, 0, none⟩) (i := 0) (s := 0) k_fd_26_1_1_3 k_sz_3_1 rfl rfl)) ?_
  refine sgq 17 (B := (!((!r_2) || (!r_3)))) (v := .int .i64 a.Cols) rfl rfl (wt_f (gd_of (t := 15) (by kernel_rfl) rfl)) (fun hg4 => (Y_load1 (B := some ⟨b1, 0, none⟩) (i := 1) (cs := [.int .i64 a.Rows, .int .i64 a.Cols, .slice B a.Cells.length c]) (v := .int .i64 a.Cols) k_sc_3 rfl (gv_of (B := (!((!r_2) || (!r_3)))) (v := pt (some ⟨b1, 0, none⟩) 1) hg4) (hS5.cf (i := 0) rfl) rfl)) ?_
  refine sgq 18 (B := (!((!r_2) || (!r_3)))) (v := pt (some ⟨b2, 0, none⟩) 0) rfl rfl (wt_f (gd_of (t := 15) (by kernel_rfl) rfl)) (fun hg5 => (Y_fieldAddr (B := some ⟨b2, 0, none⟩) (i := 0) (s := 0) k_fd_26_0_0_3 k_sz_3_1 rfl rfl)) ?_
  refine sgq 19 (B := (!((!r_2) || (!r_3)))) (v := .int .i64 b.Rows) rfl rfl (wt_f (gd_of (t := 15) (by kernel_rfl) rfl)) (fun hg6 => (Y_load1 (B := some ⟨b2, 0, none⟩) (i := 0) (cs := [.int .i64 b.Rows, .int .i64 b.Cols, .slice B1 b.Cells.length c1]) (v := .int .i64 b.Rows) k_sc_3 rfl (gv_of (B := (!((!r_2) || (!r_3)))) (v := pt (some ⟨b2, 0, none⟩) 0) hg6) (hS5.cf (i := 1) rfl) rfl)) ?_
  refine sgq 20 (B := (!((!r_2) || (!r_3)))) (v := .bool (a.Cols != b.Rows)) rfl rfl (wt_f (gd_of (t := 15) (by kernel_rfl) rfl)) (fun hg7 => (Y_ne (k := .i64) (a := a.Cols) (b := b.Rows) rfl (gv_of (B := (!((!r_2) || (!r_3)))) (v := .int .i64 a.Cols) hg7) (gv_of (B := (!((!r_2) || (!r_3)))) (v := .int .i64 b.Rows) hg7))) ?_
  refine sq 21 rfl rfl (Y_or (b := ((!r_2) || (!r_3))) (z := (a.Cols != b.Rows)) rfl rfl rfl rfl) ?_
  refine rw_nil ?_
  refine cw_cond (b := (((!r_2) || (!r_3)) || (a.Cols != b.Rows))) rfl (fun hb => ?_) (fun hb => ?_)
  · skip
    have hF1 := ct hF hb
    refine cw_seq ?_
    refine cw_region ?_
    refine sq 22 rfl rfl (Y_buildS (zs := [.int .i64 0, .int .i64 0, .slice none 0 0]) (vs := []) (cs := [.int .i64 0, .int .i64 0, .slice none 0 0]) k_pl_26 k_zero_26 rfl mpn rfl) ?_
    refine ss0 rfl rfl (Ys_store (i := 2) (s := 3) (B := some ⟨b3, 0, none⟩) (T' := 26) (v := .agg #[.int .i64 0, .int .i64 0, .slice none 0 0]) (vs := [.int .i64 0, .int .i64 0, .slice none 0 0]) (k := 0) (cs' := [.int .i64 0, .int .i64 0, .slice none 0 0]) hS5 k_sz_26_3 rfl rfl rfl rfl rfl rfl rfl (Nat.le_of_ble_eq_true rfl) rfl rfl) ?_
    rintro _ w_5 ⟨rfl, hS6⟩
    have hS6 : ST w0 [] _ [⟨some ⟨b1, 0, none⟩, 26, [.int .i64 a.Rows, .int .i64 a.Cols, .slice B a.Cells.length c], 3⟩, ⟨some ⟨b2, 0, none⟩, 26, [.int .i64 b.Rows, .int .i64 b.Cols, .slice B1 b.Cells.length c1], 3⟩, ⟨some ⟨b3, 0, none⟩, 26, [.int .i64 0, .int .i64 0, .slice none 0 0], 3⟩] [⟨B, (a.Cells.flatMap enc_Dyadic)⟩, ⟨B1, (b.Cells.flatMap enc_Dyadic)⟩] := hS6
    refine sq 5 rfl rfl (Y_assign (v := .bool false) rfl rfl) ?_
    refine rw_nil ?_
    refine cw_ret ?_
    have hS7 := hS6.addNil 44
    obtain ⟨rfl, rfl⟩ := pr2 (some_inj hF1)
    exact ret2 Try.results16 (v1 := .agg #[.int .i64 0, .int .i64 0, .slice none 0 0]) (resAt_cellA (B := some ⟨b3, 0, none⟩) (i := 0) (cs := [.int .i64 0, .int .i64 0, .slice none 0 0]) (vs := [.int .i64 0, .int .i64 0, .slice none 0 0]) rfl k_ag_26 k_sz_26_3 (hS7.cf (i := 2) rfl) rfl rfl) (v2 := .bool false) (resAt_tmp rfl) ⟨none, 0, rfl, (ST.subR (R' := []) (hS7.sel [3] rfl rfl) (fun _ h => by cases h))⟩
  · skip
    have hF2 := cf' hF hb
    refine cw_skip ?_
    refine cw_seq ?_
    refine cw_region ?_
    refine sq 23 rfl rfl (Y_buildS (zs := [.bool false]) (vs := []) (cs := [.bool false]) k_pl_96 k_zero_96 rfl mpn rfl) ?_
    refine ss 24 rfl rfl (Ys_box (T := 96) (v := .agg #[.bool false]) (cs := [.bool false]) (m := 1) hS5 rfl rfl rfl rfl) ?_
    rintro _ w_6 ⟨b4, rfl, hS8⟩
    have hS8 : ST w0 [] _ [⟨some ⟨b1, 0, none⟩, 26, [.int .i64 a.Rows, .int .i64 a.Cols, .slice B a.Cells.length c], 3⟩, ⟨some ⟨b2, 0, none⟩, 26, [.int .i64 b.Rows, .int .i64 b.Cols, .slice B1 b.Cells.length c1], 3⟩, ⟨some ⟨b3, 0, none⟩, 26, [.int .i64 0, .int .i64 0, .slice none 0 0], 3⟩, ⟨some ⟨b4, 0, none⟩, 96, [.bool false], 1⟩] [⟨B, (a.Cells.flatMap enc_Dyadic)⟩, ⟨B1, (b.Cells.flatMap enc_Dyadic)⟩] := hS8
    refine sq 6 rfl rfl (Y_assign (v := pt (some ⟨b4, 0, none⟩) 0) rfl rfl) ?_
    refine rw_nil ?_
    refine cw_seq ?_
    refine cw_region ?_
    refine sq 25 rfl rfl (Y_move (v := pt (some ⟨b4, 0, none⟩) 0) rfl rfl) ?_
    refine sq 26 rfl rfl (Y_move (v := pt (some ⟨b4, 0, none⟩) 0) rfl rfl) ?_
    refine sq 27 rfl rfl (Y_loadA (B := some ⟨b1, 0, none⟩) (i := 0) (cs := [.int .i64 a.Rows, .int .i64 a.Cols, .slice B a.Cells.length c]) (vs := [.int .i64 a.Rows, .int .i64 a.Cols, .slice B a.Cells.length c]) k_ag_26 k_sz_26_3 rfl rfl (hS8.cf (i := 0) rfl) rfl rfl) ?_
    refine sq 28 rfl rfl (Y_loadA (B := some ⟨b2, 0, none⟩) (i := 0) (cs := [.int .i64 b.Rows, .int .i64 b.Cols, .slice B1 b.Cells.length c1]) (vs := [.int .i64 b.Rows, .int .i64 b.Cols, .slice B1 b.Cells.length c1]) k_ag_26 k_sz_26_3 rfl rfl (hS8.cf (i := 1) rfl) rfl rfl) ?_
    obtain ⟨⟨r_4, m⟩, hc2, hF2⟩ := bind_inv hF2
    refine sc 29 rfl rfl (Yc_func (g := 63) (vs := [pt (some ⟨b4, 0, none⟩) 0, .agg #[.int .i64 a.Rows, .int .i64 a.Cols, .slice B a.Cells.length c], .agg #[.int .i64 b.Rows, .int .i64 b.Cols, .slice B1 b.Cells.length c1]]) k_call_63 rfl (mc rfl (mc rfl (mc rfl mn))) (c_spec_l2C_times (Tl2C.mk false) a b (some ⟨b4, 0, none⟩) B c a.Cells.length B1 c1 b.Cells.length _ rfl rfl (hS8.inn [false, false, false, true] rfl [(true, 0), (true, 1)] rfl) hc2)) ?_
    rintro _ w_7 ⟨B3, c3, rfl, hd1⟩
    have hS9 := hS8.out [false, false, false, true] rfl hd1
    have hS9 : ST w0 [] _ [⟨some ⟨b1, 0, none⟩, 26, [.int .i64 a.Rows, .int .i64 a.Cols, .slice B a.Cells.length c], 3⟩, ⟨some ⟨b2, 0, none⟩, 26, [.int .i64 b.Rows, .int .i64 b.Cols, .slice B1 b.Cells.length c1], 3⟩, ⟨some ⟨b3, 0, none⟩, 26, [.int .i64 0, .int .i64 0, .slice none 0 0], 3⟩, ⟨some ⟨b4, 0, none⟩, 96, [.bool m.bad], 1⟩, ⟨B3, 44, (r_4.Cells.flatMap enc_Dyadic), c3 * 5⟩] [⟨B, (a.Cells.flatMap enc_Dyadic)⟩, ⟨B1, (b.Cells.flatMap enc_Dyadic)⟩] := hS9
    obtain ⟨⟨r_5, r_6⟩, hc3, hF2⟩ := bind_inv hF2
    refine sc 30 rfl rfl (Yc_func (g := 62) (vs := [pt (some ⟨b4, 0, none⟩) 0, .agg #[.int .i64 r_4.Rows, .int .i64 r_4.Cols, .slice B3 r_4.Cells.length c3]]) k_call_62 rfl (mc rfl (mc rfl mn)) (c_spec_l2C_matrix m r_4 (some ⟨b4, 0, none⟩) B3 c3 r_4.Cells.length _ rfl (hS9.inn [false, false, false, false, true] rfl [(false, 3)] rfl) hc3)) ?_
    rintro _ w_8 ⟨B4, c4, rfl, hd2⟩
    have hS10 := hS9.out [false, false, false, false, true] rfl hd2
    have hS10 : ST w0 [] _ [⟨some ⟨b1, 0, none⟩, 26, [.int .i64 a.Rows, .int .i64 a.Cols, .slice B a.Cells.length c], 3⟩, ⟨some ⟨b2, 0, none⟩, 26, [.int .i64 b.Rows, .int .i64 b.Cols, .slice B1 b.Cells.length c1], 3⟩, ⟨some ⟨b3, 0, none⟩, 26, [.int .i64 0, .int .i64 0, .slice none 0 0], 3⟩, ⟨some ⟨b4, 0, none⟩, 96, [.bool m.bad], 1⟩, ⟨B4, 44, (r_5.Cells.flatMap enc_Dyadic), c4 * 5⟩] [⟨B, (a.Cells.flatMap enc_Dyadic)⟩, ⟨B1, (b.Cells.flatMap enc_Dyadic)⟩] := hS10
    refine sq 31 rfl rfl (Y_extract (v := .agg #[.int .i64 r_5.Rows, .int .i64 r_5.Cols, .slice B4 r_5.Cells.length c4]) rfl rfl rfl) ?_
    refine sq 32 rfl rfl (Y_extract (v := .bool r_6) rfl rfl rfl) ?_
    refine ss0 rfl rfl (Ys_store (i := 2) (s := 3) (B := some ⟨b3, 0, none⟩) (T' := 26) (v := .agg #[.int .i64 r_5.Rows, .int .i64 r_5.Cols, .slice B4 r_5.Cells.length c4]) (vs := [.int .i64 r_5.Rows, .int .i64 r_5.Cols, .slice B4 r_5.Cells.length c4]) (k := 0) (cs' := [.int .i64 r_5.Rows, .int .i64 r_5.Cols, .slice B4 r_5.Cells.length c4]) hS10 k_sz_26_3 rfl rfl rfl rfl rfl rfl rfl (Nat.le_of_ble_eq_true rfl) rfl rfl) ?_
    rintro _ w_9 ⟨rfl, hS11⟩
    have hS11 : ST w0 [] _ [⟨some ⟨b1, 0, none⟩, 26, [.int .i64 a.Rows, .int .i64 a.Cols, .slice B a.Cells.length c], 3⟩, ⟨some ⟨b2, 0, none⟩, 26, [.int .i64 b.Rows, .int .i64 b.Cols, .slice B1 b.Cells.length c1], 3⟩, ⟨some ⟨b3, 0, none⟩, 26, [.int .i64 r_5.Rows, .int .i64 r_5.Cols, .slice B4 r_5.Cells.length c4], 3⟩, ⟨some ⟨b4, 0, none⟩, 96, [.bool m.bad], 1⟩, ⟨B4, 44, (r_5.Cells.flatMap enc_Dyadic), c4 * 5⟩] [⟨B, (a.Cells.flatMap enc_Dyadic)⟩, ⟨B1, (b.Cells.flatMap enc_Dyadic)⟩] := hS11
    refine sq 5 rfl rfl (Y_assign (v := .bool r_6) rfl rfl) ?_
    refine rw_nil ?_
    refine cw_ret ?_
    obtain ⟨rfl, rfl⟩ := pr2 (some_inj hF2)
    exact ret2 Try.results16 (v1 := .agg #[.int .i64 r_5.Rows, .int .i64 r_5.Cols, .slice B4 r_5.Cells.length c4]) (resAt_cellA (B := some ⟨b3, 0, none⟩) (i := 0) (cs := [.int .i64 r_5.Rows, .int .i64 r_5.Cols, .slice B4 r_5.Cells.length c4]) (vs := [.int .i64 r_5.Rows, .int .i64 r_5.Cols, .slice B4 r_5.Cells.length c4]) rfl k_ag_26 k_sz_26_3 (hS11.cf (i := 2) rfl) rfl rfl) (v2 := .bool r_6) (resAt_tmp rfl) ⟨B4, c4, rfl, (ST.subR (R' := []) (hS11.sel [4] rfl rfl) (fun _ h => by cases h))⟩

theorem c_spec_EqualMatrices (a : TMatrix) (b : TMatrix) (B : Option Addr) (c n : Nat) (B1 : Option Addr) (c1 n1 : Nat) (w0 : World) (hn : a.Cells.length = n) (hn1 : b.Cells.length = n1) (hS : ST w0 [] w0 [] [⟨B, (a.Cells.flatMap enc_Dyadic)⟩, ⟨B1, (b.Cells.flatMap enc_Dyadic)⟩]) {r_ : Bool} (hF : F_spec_EqualMatrices a b = some r_) :
    CV Try.prog 17 #[.agg #[.int .i64 a.Rows, .int .i64 a.Cols, .slice B n c], .agg #[.int .i64 b.Rows, .int .i64 b.Cols, .slice B1 n1 c1]] w0 (fun v w' => v = .bool r_ ∧ ST w0 [] w' [] []) := by
  subst hn
  subst hn1
  unfold F_spec_EqualMatrices at hF
  refine cv_of_cw 45 Try.func17 rfl Try.ntmps17 rfl ?_
  refine cw_seq ?_
  refine cw_region ?_
  refine ss 2 rfl rfl (Ys_box (T := 26) (v := .agg #[.int .i64 a.Rows, .int .i64 a.Cols, .slice B a.Cells.length c]) (cs := [.int .i64 a.Rows, .int .i64 a.Cols, .slice B a.Cells.length c]) (m := 3) hS rfl rfl rfl rfl) ?_
  rintro _ w_ ⟨b1, rfl, hS1⟩
  refine ss 3 rfl rfl (Ys_box (T := 26) (v := .agg #[.int .i64 b.Rows, .int .i64 b.Cols, .slice B1 b.Cells.length c1]) (cs := [.int .i64 b.Rows, .int .i64 b.Cols, .slice B1 b.Cells.length c1]) (m := 3) hS1 rfl rfl rfl rfl) ?_
  rintro _ w_1 ⟨b2, rfl, hS2⟩
  have hS2 : ST w0 [] _ [⟨some ⟨b1, 0, none⟩, 26, [.int .i64 a.Rows, .int .i64 a.Cols, .slice B a.Cells.length c], 3⟩, ⟨some ⟨b2, 0, none⟩, 26, [.int .i64 b.Rows, .int .i64 b.Cols, .slice B1 b.Cells.length c1], 3⟩] [⟨B, (a.Cells.flatMap enc_Dyadic)⟩, ⟨B1, (b.Cells.flatMap enc_Dyadic)⟩] := hS2
  refine sq 4 rfl rfl (Y_assign (v := .bool false) rfl rfl) ?_
  refine rw_nil ?_
  refine cw_seq ?_
  refine cw_seq ?_
  refine cw_region ?_
  refine sq 6 rfl rfl (Y_fieldAddr (B := some ⟨b1, 0, none⟩) (i := 0) (s := 0) k_fd_26_0_0_3 k_sz_3_1 rfl rfl) ?_
  refine sq 7 rfl rfl (Y_load1 (B := some ⟨b1, 0, none⟩) (i := 0) (cs := [.int .i64 a.Rows, .int .i64 a.Cols, .slice B a.Cells.length c]) (v := .int .i64 a.Rows) k_sc_3 rfl rfl (hS2.cf (i := 0) rfl) rfl) ?_
  refine sq 8 rfl rfl (Y_fieldAddr (B := some ⟨b2, 0, none⟩) (i := 0) (s := 0) k_fd_26_0_0_3 k_sz_3_1 rfl rfl) ?_
  refine sq 9 rfl rfl (Y_load1 (B := some ⟨b2, 0, none⟩) (i := 0) (cs := [.int .i64 b.Rows, .int .i64 b.Cols, .slice B1 b.Cells.length c1]) (v := .int .i64 b.Rows) k_sc_3 rfl rfl (hS2.cf (i := 1) rfl) rfl) ?_
  refine sq 10 rfl rfl (Y_ne (k := .i64) (a := a.Rows) (b := b.Rows) rfl rfl rfl) ?_
  refine sq 11 rfl rfl (Y_move (v := .bool (a.Rows != b.Rows)) rfl rfl) ?_
  refine sgq 12 (B := (!(a.Rows != b.Rows))) (v := pt (some ⟨b1, 0, none⟩) 1) rfl rfl (wt_f (gd_of (t := 11) (by kernel_rfl) rfl)) (fun hg => (Y_fieldAddr (B := some ⟨b1, 0, none⟩) (i := 0) (s := 0) k_fd_26_1_1_3 k_sz_3_1 rfl rfl)) ?_
  refine sgq 13 (B := (!(a.Rows != b.Rows))) (v := .int .i64 a.Cols) rfl rfl (wt_f (gd_of (t := 11) (by kernel_rfl) rfl)) (fun hg1 => (Y_load1 (B := some ⟨b1, 0, none⟩) (i := 1) (cs := [.int .i64 a.Rows, .int .i64 a.Cols, .slice B a.Cells.length c]) (v := .int .i64 a.Cols) k_sc_3 rfl (gv_of (B := (!(a.Rows != b.Rows))) (v := pt (some ⟨b1, 0, none⟩) 1) hg1) (hS2.cf (i := 0) rfl) rfl)) ?_
  refine sgq 14 (B := (!(a.Rows != b.Rows))) (v := pt (some ⟨b2, 0, none⟩) 1) rfl rfl (wt_f (gd_of (t := 11) (by kernel_rfl) rfl)) (fun hg2 => (Y_fieldAddr (B := some ⟨b2, 0, none⟩) (i := 0) (s := 0) k_fd_26_1_1_3 k_sz_3_1 rfl rfl)) ?_
  refine sgq 15 (B := (!(a.Rows != b.Rows))) (v := .int .i64 b.Cols) rfl rfl (wt_f (gd_of (t := 11) (by kernel_rfl) rfl)) (fun hg3 => (Y_load1 (B := some ⟨b2, 0, none⟩) (i := 1) (cs := [.int .i64 b.Rows, .int .i64 b.Cols, .slice B1 b.Cells.length c1]) (v := .int .i64 b.Cols) k_sc_3 rfl (gv_of (B := (!(a.Rows != b.Rows))) (v := pt (some ⟨b2, 0, none⟩) 1) hg3) (hS2.cf (i := 1) rfl) rfl)) ?_
  refine sgq 16 (B := (!(a.Rows != b.Rows))) (v := .bool (a.Cols != b.Cols)) rfl rfl (wt_f (gd_of (t := 11) (by kernel_rfl) rfl)) (fun hg4 => (Y_ne (k := .i64) (a := a.Cols) (b := b.Cols) rfl (gv_of (B := (!(a.Rows != b.Rows))) (v := .int .i64 a.Cols) hg4) (gv_of (B := (!(a.Rows != b.Rows))) (v := .int .i64 b.Cols) hg4))) ?_
  refine sq 17 rfl rfl (Y_or (b := (a.Rows != b.Rows)) (z := (a.Cols != b.Cols)) rfl rfl rfl rfl) ?_
  refine sq 18 rfl rfl (Y_move (v := .bool ((a.Rows != b.Rows) || (a.Cols != b.Cols))) rfl rfl) ?_
  refine sgq 19 (B := (!((a.Rows != b.Rows) || (a.Cols != b.Cols)))) (v := pt (some ⟨b1, 0, none⟩) 2) rfl rfl (wt_f (gd_of (t := 18) (by kernel_rfl) rfl)) (fun hg5 => (Y_fieldAddr (B := some ⟨b1, 0, none⟩) (i := 0) (s := 0) k_fd_26_2_2_24 k_sz_24_1 rfl rfl)) ?_
  refine sgq 20 (B := (!((a.Rows != b.Rows) || (a.Cols != b.Cols)))) (v := .slice B a.Cells.length c) rfl rfl (wt_f (gd_of (t := 18) (by kernel_rfl) rfl)) (fun hg6 => (Y_load1 (B := some ⟨b1, 0, none⟩) (i := 2) (cs := [.int .i64 a.Rows, .int .i64 a.Cols, .slice B a.Cells.length c]) (v := .slice B a.Cells.length c) k_sc_24 rfl (gv_of (B := (!((a.Rows != b.Rows) || (a.Cols != b.Cols)))) (v := pt (some ⟨b1, 0, none⟩) 2) hg6) (hS2.cf (i := 0) rfl) rfl)) ?_
  refine sgq 21 (B := (!((a.Rows != b.Rows) || (a.Cols != b.Cols)))) (v := .int .i64 (a.Cells.length : Int)) rfl rfl (wt_f (gd_of (t := 18) (by kernel_rfl) rfl)) (fun hg7 => (Y_len (B := B) (m := a.Cells.length) (c := c) k_sl_24_44 rfl (gv_of (B := (!((a.Rows != b.Rows) || (a.Cols != b.Cols)))) (v := .slice B a.Cells.length c) hg7))) ?_
  refine sgq 22 (B := (!((a.Rows != b.Rows) || (a.Cols != b.Cols)))) (v := pt (some ⟨b2, 0, none⟩) 2) rfl rfl (wt_f (gd_of (t := 18) (by kernel_rfl) rfl)) (fun hg8 => (Y_fieldAddr (B := some ⟨b2, 0, none⟩) (i := 0) (s := 0) k_fd_26_2_2_24 k_sz_24_1 rfl rfl)) ?_
  refine sgq 23 (B := (!((a.Rows != b.Rows) || (a.Cols != b.Cols)))) (v := .slice B1 b.Cells.length c1) rfl rfl (wt_f (gd_of (t := 18) (by kernel_rfl) rfl)) (fun hg9 => (Y_load1 (B := some ⟨b2, 0, none⟩) (i := 2) (cs := [.int .i64 b.Rows, .int .i64 b.Cols, .slice B1 b.Cells.length c1]) (v := .slice B1 b.Cells.length c1) k_sc_24 rfl (gv_of (B := (!((a.Rows != b.Rows) || (a.Cols != b.Cols)))) (v := pt (some ⟨b2, 0, none⟩) 2) hg9) (hS2.cf (i := 1) rfl) rfl)) ?_
  refine sgq 24 (B := (!((a.Rows != b.Rows) || (a.Cols != b.Cols)))) (v := .int .i64 (b.Cells.length : Int)) rfl rfl (wt_f (gd_of (t := 18) (by kernel_rfl) rfl)) (fun hg10 => (Y_len (B := B1) (m := b.Cells.length) (c := c1) k_sl_24_44 rfl (gv_of (B := (!((a.Rows != b.Rows) || (a.Cols != b.Cols)))) (v := .slice B1 b.Cells.length c1) hg10))) ?_
  refine sgq 25 (B := (!((a.Rows != b.Rows) || (a.Cols != b.Cols)))) (v := .bool ((a.Cells.length : Int) != (b.Cells.length : Int))) rfl rfl (wt_f (gd_of (t := 18) (by kernel_rfl) rfl)) (fun hg11 => (Y_ne (k := .i64) (a := (a.Cells.length : Int)) (b := (b.Cells.length : Int)) rfl (gv_of (B := (!((a.Rows != b.Rows) || (a.Cols != b.Cols)))) (v := .int .i64 (a.Cells.length : Int)) hg11) (gv_of (B := (!((a.Rows != b.Rows) || (a.Cols != b.Cols)))) (v := .int .i64 (b.Cells.length : Int)) hg11))) ?_
  refine sq 26 rfl rfl (Y_or (b := ((a.Rows != b.Rows) || (a.Cols != b.Cols))) (z := ((a.Cells.length : Int) != (b.Cells.length : Int))) rfl rfl rfl rfl) ?_
  refine rw_nil ?_
  refine cw_cond (b := (((a.Rows != b.Rows) || (a.Cols != b.Cols)) || ((a.Cells.length : Int) != (b.Cells.length : Int)))) rfl (fun hb => ?_) (fun hb => ?_)
  · skip
    have hF1 := ct hF hb
    refine cw_seq ?_
    refine cw_region ?_
    refine sq 4 rfl rfl (Y_assign (v := .bool false) rfl rfl) ?_
    refine rw_nil ?_
    refine cw_ret ?_
    obtain rfl := some_inj hF1
    exact ret1 Try.results17 (v1 := .bool false) (resAt_tmp rfl) ⟨rfl, (ST.subR (R' := []) (hS2.sel [] rfl rfl) (fun _ h => by cases h))⟩
  · skip
    have hF2 := cf' hF hb
    refine cw_skip ?_
    refine cw_seq ?_
    refine cw_seq ?_
    refine cw_region ?_
    refine sq 27 rfl rfl (Y_fieldAddr (B := some ⟨b1, 0, none⟩) (i := 0) (s := 0) k_fd_26_2_2_24 k_sz_24_1 rfl rfl) ?_
    refine sq 28 rfl rfl (Y_load1 (B := some ⟨b1, 0, none⟩) (i := 2) (cs := [.int .i64 a.Rows, .int .i64 a.Cols, .slice B a.Cells.length c]) (v := .slice B a.Cells.length c) k_sc_24 rfl rfl (hS2.cf (i := 0) rfl) rfl) ?_
    refine sq 29 rfl rfl (Y_len (B := B) (m := a.Cells.length) (c := c) k_sl_24_44 rfl rfl) ?_
    refine sq 30 rfl rfl (Y_move (v := .int .i64 0) rfl rfl) ?_
    refine rw_nil ?_
    obtain ⟨hN, hF2⟩ := chk_inv hF2
    obtain ⟨z, hz, hF3⟩ := bind_inv hF2
    refine cw_block ?_
    refine cw_loop (fun k f w => ∃ (i : Nat), FF f [(2, pt (some ⟨b1, 0, none⟩) 0), (3, pt (some ⟨b2, 0, none⟩) 0), (29, .int .i64 (a.Cells.length : Int)), (30, .int .i64 (i : Int))] ∧ ST w0 [] w [⟨some ⟨b1, 0, none⟩, 26, [.int .i64 a.Rows, .int .i64 a.Cols, .slice B a.Cells.length c], 3⟩, ⟨some ⟨b2, 0, none⟩, 26, [.int .i64 b.Rows, .int .i64 b.Cols, .slice B1 b.Cells.length c1], 3⟩] [⟨B, (a.Cells.flatMap enc_Dyadic)⟩, ⟨B1, (b.Cells.flatMap enc_Dyadic)⟩] ∧ i + k = a.Cells.length ∧ forX (F_spec_EqualMatrices_l1 a b) k i () = some z) a.Cells.length ⟨0, (FF.cons rfl (FF.cons rfl (FF.cons rfl (FF.cons rfl FF.nil)))), (hS2.sel [0, 1] rfl rfl), Nat.zero_add _, hz⟩ ?_
    rintro k_ f w ⟨i, hf, hS3, hik, hL⟩
    refine cw_seq ?_
    refine cw_region ?_
    refine sq 31 rfl rfl (Y_lt (k := .i64) (a := (i : Int)) (b := (a.Cells.length : Int)) rfl (hf.get 30 3 rfl) (hf.get 29 2 rfl)) ?_
    refine rw_nil ?_
    refine cw_seq ?_
    refine cw_cond (b := (decide ((i : Int) < (a.Cells.length : Int)))) rfl (fun hlt => ?_) (fun hlt => ?_)
    · skip
      have hlt1 : i < a.Cells.length := by have h := of_decide_eq_true hlt; omega
      obtain ⟨k_1, rfl⟩ : ∃ k2, k_ = k2 + 1 := ⟨k_ - 1, by omega⟩
      obtain ⟨y, hb1, hL1⟩ := forX_go hL
      unfold F_spec_EqualMatrices_l1 at hb1
      refine cw_skip ?_
      refine cw_seq ?_
      refine cw_block ?_
      refine cw_seq ?_
      refine cw_region ?_
      refine sq 32 rfl rfl (Y_move (v := .int .i64 (i : Int)) rfl (hf.get 30 3 rfl)) ?_
      refine sq 5 rfl rfl (Y_assign (v := .int .i64 (i : Int)) rfl rfl) ?_
      refine rw_nil ?_
      refine cw_seq ?_
      obtain ⟨x, hx, hb1⟩ := bind_inv hb1
      obtain ⟨x1, hx1, hb1⟩ := bind_inv hb1
      refine ra_start (ST.sel hS3 [0, 1] rfl rfl).fn (by kernel_rfl) ?_
      have hS4 := hS3.drew
      refine ra_q 0 33 (v := pt (some ⟨b1, 0, none⟩) 2) rfl rfl rfl (by kernel_rfl) (by kernel_rfl) (by kernel_rfl) (ST.sel hS4 [0, 1] rfl rfl) (fun w' hw' => (Y_fieldAddr (B := some ⟨b1, 0, none⟩) (i := 0) (s := 0) k_fd_26_2_2_24 k_sz_24_1 rfl (hf.get 2 0 rfl))) ?_
      refine ra_q 1 34 (v := .slice B a.Cells.length c) rfl rfl rfl (by kernel_rfl) (by kernel_rfl) (by kernel_rfl) (ST.sel hS4 [0, 1] rfl rfl) (fun w' hw' => (Y_load1 (B := some ⟨b1, 0, none⟩) (i := 2) (cs := [.int .i64 a.Rows, .int .i64 a.Cols, .slice B a.Cells.length c]) (v := .slice B a.Cells.length c) k_sc_24 rfl rfl (ST.cf hw' (i := 0) rfl) rfl)) ?_
      refine ra_q 2 35 (v := .int .i64 (i : Int)) rfl rfl rfl (by kernel_rfl) (by kernel_rfl) (by kernel_rfl) (ST.sel hS4 [0, 1] rfl rfl) (fun w' hw' => (Y_move (v := .int .i64 (i : Int)) rfl rfl)) ?_
      refine ra_q 3 36 (v := pt B ((i : Int).toNat * 5)) rfl rfl rfl (by kernel_rfl) (by kernel_rfl) (by kernel_rfl) (ST.sel hS4 [0, 1] rfl rfl) (fun w' hw' => (Y_index (B := B) (m := a.Cells.length) (c := c) (k := .i64) (i := (i : Int)) k_sl_24_44 k_sz_44_5 rfl rfl rfl (gi_isSome enc_Dyadic_len rfl (ST.rf hw' (i := 0) rfl) hx) (getI_nn hx) (getI_ltI hx rfl))) ?_
      refine ra_q 4 37 (v := .agg #[.int .i64 x.Num.A, .int .i64 x.Num.B, .int .i64 x.Num.C, .int .i64 x.Num.D, .int .i64 x.Exp]) rfl rfl rfl (by kernel_rfl) (by kernel_rfl) (by kernel_rfl) (ST.sel hS4 [0, 1] rfl rfl) (fun w' hw' => (Y_loadA (B := B) (i := (i : Int).toNat * 5) (cs := (a.Cells.flatMap enc_Dyadic)) (vs := [.int .i64 x.Num.A, .int .i64 x.Num.B, .int .i64 x.Num.C, .int .i64 x.Num.D, .int .i64 x.Exp]) k_ag_44 k_sz_44_5 rfl rfl (ST.rf hw' (i := 0) rfl) (enc_Dyadic_len x) (gi_seg enc_Dyadic_len hx))) ?_
      refine ra_q 5 38 (v := pt (some ⟨b2, 0, none⟩) 2) rfl rfl rfl (by kernel_rfl) (by kernel_rfl) (by kernel_rfl) (ST.sel hS4 [0, 1] rfl rfl) (fun w' hw' => (Y_fieldAddr (B := some ⟨b2, 0, none⟩) (i := 0) (s := 0) k_fd_26_2_2_24 k_sz_24_1 rfl (hf.get 3 1 rfl))) ?_
      refine ra_q 6 39 (v := .slice B1 b.Cells.length c1) rfl rfl rfl (by kernel_rfl) (by kernel_rfl) (by kernel_rfl) (ST.sel hS4 [0, 1] rfl rfl) (fun w' hw' => (Y_load1 (B := some ⟨b2, 0, none⟩) (i := 2) (cs := [.int .i64 b.Rows, .int .i64 b.Cols, .slice B1 b.Cells.length c1]) (v := .slice B1 b.Cells.length c1) k_sc_24 rfl rfl (ST.cf hw' (i := 1) rfl) rfl)) ?_
      refine ra_q 7 40 (v := .int .i64 (i : Int)) rfl rfl rfl (by kernel_rfl) (by kernel_rfl) (by kernel_rfl) (ST.sel hS4 [0, 1] rfl rfl) (fun w' hw' => (Y_move (v := .int .i64 (i : Int)) rfl rfl)) ?_
      refine ra_q 8 41 (v := pt B1 ((i : Int).toNat * 5)) rfl rfl rfl (by kernel_rfl) (by kernel_rfl) (by kernel_rfl) (ST.sel hS4 [0, 1] rfl rfl) (fun w' hw' => (Y_index (B := B1) (m := b.Cells.length) (c := c1) (k := .i64) (i := (i : Int)) k_sl_24_44 k_sz_44_5 rfl rfl rfl (gi_isSome enc_Dyadic_len rfl (ST.rf hw' (i := 1) rfl) hx1) (getI_nn hx1) (getI_ltI hx1 rfl))) ?_
      refine ra_q 9 42 (v := .agg #[.int .i64 x1.Num.A, .int .i64 x1.Num.B, .int .i64 x1.Num.C, .int .i64 x1.Num.D, .int .i64 x1.Exp]) rfl rfl rfl (by kernel_rfl) (by kernel_rfl) (by kernel_rfl) (ST.sel hS4 [0, 1] rfl rfl) (fun w' hw' => (Y_loadA (B := B1) (i := (i : Int).toNat * 5) (cs := (b.Cells.flatMap enc_Dyadic)) (vs := [.int .i64 x1.Num.A, .int .i64 x1.Num.B, .int .i64 x1.Num.C, .int .i64 x1.Num.D, .int .i64 x1.Exp]) k_ag_44 k_sz_44_5 rfl rfl (ST.rf hw' (i := 1) rfl) (enc_Dyadic_len x1) (gi_seg enc_Dyadic_len hx1))) ?_
      refine ra_q 10 43 (v := .bool (!(((x.Num.A == x1.Num.A) && ((x.Num.B == x1.Num.B) && ((x.Num.C == x1.Num.C) && ((x.Num.D == x1.Num.D) && true)))) && ((x.Exp == x1.Exp) && true)))) rfl rfl rfl (by kernel_rfl) (by kernel_rfl) (by kernel_rfl) (ST.sel hS4 [0, 1] rfl rfl) (fun w' hw' => (Y_neA (xs := #[.int .i64 x.Num.A, .int .i64 x.Num.B, .int .i64 x.Num.C, .int .i64 x.Num.D, .int .i64 x.Exp]) (ys := #[.int .i64 x1.Num.A, .int .i64 x1.Num.B, .int .i64 x1.Num.C, .int .i64 x1.Num.D, .int .i64 x1.Exp]) (b := (((x.Num.A == x1.Num.A) && ((x.Num.B == x1.Num.B) && ((x.Num.C == x1.Num.C) && ((x.Num.D == x1.Num.D) && true)))) && ((x.Exp == x1.Exp) && true))) k_eg_44 rfl rfl rfl (eqr_struct (xs := [.int .i64 x.Num.A, .int .i64 x.Num.B, .int .i64 x.Num.C, .int .i64 x.Num.D, .int .i64 x.Exp]) (ys := [.int .i64 x1.Num.A, .int .i64 x1.Num.B, .int .i64 x1.Num.C, .int .i64 x1.Num.D, .int .i64 x1.Exp]) k_st_44 k_ho_44 (pts_ag (us := [.int .i64 x.Num.A, .int .i64 x.Num.B, .int .i64 x.Num.C, .int .i64 x.Num.D]) (vs := [.int .i64 x1.Num.A, .int .i64 x1.Num.B, .int .i64 x1.Num.C, .int .i64 x1.Num.D]) k_ag_42 k_sz_42_4 rfl rfl (eqr_struct (xs := [.int .i64 x.Num.A, .int .i64 x.Num.B, .int .i64 x.Num.C, .int .i64 x.Num.D]) (ys := [.int .i64 x1.Num.A, .int .i64 x1.Num.B, .int .i64 x1.Num.C, .int .i64 x1.Num.D]) k_st_42 k_ho_42 (pts_sc k_sc_3 rfl rfl (eqr_int k_int_3_i64) (pts_sc k_sc_3 rfl rfl (eqr_int k_int_3_i64) (pts_sc k_sc_3 rfl rfl (eqr_int k_int_3_i64) (pts_sc k_sc_3 rfl rfl (eqr_int k_int_3_i64) pts_nil))))) (pts_sc k_sc_3 rfl rfl (eqr_int k_int_3_i64) pts_nil))))) ?_
      refine ra_done (by kernel_rfl) ?_
      refine cw_cond (b := (!(((x.Num.A == x1.Num.A) && ((x.Num.B == x1.Num.B) && ((x.Num.C == x1.Num.C) && ((x.Num.D == x1.Num.D) && true)))) && ((x.Exp == x1.Exp) && true)))) rfl (fun hb2 => ?_) (fun hb2 => ?_)
      · skip
        have hF4 := ct hb1 hb2
        refine cw_seq ?_
        refine cw_region ?_
        refine sq 4 rfl rfl (Y_assign (v := .bool false) rfl rfl) ?_
        refine rw_nil ?_
        refine cw_ret ?_
        obtain rfl := some_inj hF4
        obtain rfl := some_inj hL1
        obtain rfl := some_inj hF3
        exact ret1 Try.results17 (v1 := .bool false) (resAt_tmp rfl) ⟨rfl, (ST.subR (R' := []) (hS4.sel [] rfl rfl) (fun _ h => by cases h))⟩
      · skip
        have hF5 := cf' hb1 hb2
        refine cw_skip ?_
        refine cw_region ?_
        refine sq 44 rfl rfl (Y_add (k := .i64) (a := (i : Int)) (b := 1) rfl (hf.get 30 3 rfl) rfl) ?_
        refine sq 30 rfl rfl (Y_move (v := .int .i64 (IntKind.i64.wrap ((i : Int) + 1))) rfl rfl) ?_
        refine rw_nil ?_
        obtain rfl := some_inj hF5
        exact ⟨k_1, Nat.lt_succ_self _, i + 1, (FF.cons (hf.get 2 0 rfl) (FF.cons (hf.get 3 1 rfl) (FF.cons (hf.get 29 2 rfl) (FF.cons (congrArg (Value.int .i64) (wr_succ hlt1 hN)) FF.nil)))), (hS4.sel [0, 1] rfl rfl), (by omega), hL1⟩
    · skip
      obtain rfl : k_ = 0 := by have h := of_decide_eq_false hlt; omega
      refine cw_exit rfl ?_
      obtain rfl := some_inj hL
      refine cw_seq ?_
      refine cw_region ?_
      refine sq 4 rfl rfl (Y_assign (v := .bool true) rfl rfl) ?_
      refine rw_nil ?_
      refine cw_ret ?_
      obtain rfl := some_inj hF3
      exact ret1 Try.results17 (v1 := .bool true) (resAt_tmp rfl) ⟨rfl, (ST.subR (R' := []) (hS3.sel [] rfl rfl) (fun _ h => by cases h))⟩

theorem c_impl_Conjugate (x : TRing)  (w0 : World)  (hS : ST w0 [] w0 [] []) {r_ : TRing} {r_1 : Bool} (hF : F_impl_Conjugate x = some (r_, r_1)) :
    CV Try.prog 118 #[.agg #[.int .i64 x.A, .int .i64 x.B, .int .i64 x.C, .int .i64 x.D]] w0 (fun v w' => v = .tuple #[.agg #[.int .i64 r_.A, .int .i64 r_.B, .int .i64 r_.C, .int .i64 r_.D], .bool r_1] ∧ ST w0 [] w' [] []) := by
  unfold F_impl_Conjugate at hF
  refine cv_of_cw 21 Try.func118 rfl Try.ntmps118 rfl ?_
  refine cw_seq ?_
  refine cw_region ?_
  refine ss 1 rfl rfl (Ys_box (T := 42) (v := .agg #[.int .i64 x.A, .int .i64 x.B, .int .i64 x.C, .int .i64 x.D]) (cs := [.int .i64 x.A, .int .i64 x.B, .int .i64 x.C, .int .i64 x.D]) (m := 4) hS rfl rfl rfl rfl) ?_
  rintro _ w_ ⟨b, rfl, hS1⟩
  refine ss 2 rfl rfl (Ys_alloc (T := 42) (cs := [.int .i64 0, .int .i64 0, .int .i64 0, .int .i64 0]) (m := 4) hS1 k_zero_42 rfl rfl rfl) ?_
  rintro _ w_1 ⟨b1, rfl, hS2⟩
  have hS2 : ST w0 [] _ [⟨some ⟨b, 0, none⟩, 42, [.int .i64 x.A, .int .i64 x.B, .int .i64 x.C, .int .i64 x.D], 4⟩, ⟨some ⟨b1, 0, none⟩, 42, [.int .i64 0, .int .i64 0, .int .i64 0, .int .i64 0], 4⟩] [] := hS2
  refine sq 3 rfl rfl (Y_assign (v := .bool false) rfl rfl) ?_
  refine rw_nil ?_
  refine cw_seq ?_
  refine cw_region ?_
  refine sq 4 rfl rfl (Y_fieldAddr (B := some ⟨b, 0, none⟩) (i := 0) (s := 0) k_fd_42_0_0_3 k_sz_3_1 rfl rfl) ?_
  refine sq 5 rfl rfl (Y_load1 (B := some ⟨b, 0, none⟩) (i := 0) (cs := [.int .i64 x.A, .int .i64 x.B, .int .i64 x.C, .int .i64 x.D]) (v := .int .i64 x.A) k_sc_3 rfl rfl (hS2.cf (i := 0) rfl) rfl) ?_
  refine sq 6 rfl rfl (Y_fieldAddr (B := some ⟨b, 0, none⟩) (i := 0) (s := 0) k_fd_42_3_3_3 k_sz_3_1 rfl rfl) ?_
  refine sq 7 rfl rfl (Y_load1 (B := some ⟨b, 0, none⟩) (i := 3) (cs := [.int .i64 x.A, .int .i64 x.B, .int .i64 x.C, .int .i64 x.D]) (v := .int .i64 x.D) k_sc_3 rfl rfl (hS2.cf (i := 0) rfl) rfl) ?_
  refine sq 8 rfl rfl (Y_neg (k := .i64) (a := x.D) rfl rfl) ?_
  refine sq 9 rfl rfl (Y_fieldAddr (B := some ⟨b, 0, none⟩) (i := 0) (s := 0) k_fd_42_2_2_3 k_sz_3_1 rfl rfl) ?_
  refine sq 10 rfl rfl (Y_load1 (B := some ⟨b, 0, none⟩) (i := 2) (cs := [.int .i64 x.A, .int .i64 x.B, .int .i64 x.C, .int .i64 x.D]) (v := .int .i64 x.C) k_sc_3 rfl rfl (hS2.cf (i := 0) rfl) rfl) ?_
  refine sq 11 rfl rfl (Y_neg (k := .i64) (a := x.C) rfl rfl) ?_
  refine sq 12 rfl rfl (Y_fieldAddr (B := some ⟨b, 0, none⟩) (i := 0) (s := 0) k_fd_42_1_1_3 k_sz_3_1 rfl rfl) ?_
  refine sq 13 rfl rfl (Y_load1 (B := some ⟨b, 0, none⟩) (i := 1) (cs := [.int .i64 x.A, .int .i64 x.B, .int .i64 x.C, .int .i64 x.D]) (v := .int .i64 x.B) k_sc_3 rfl rfl (hS2.cf (i := 0) rfl) rfl) ?_
  refine sq 14 rfl rfl (Y_neg (k := .i64) (a := x.B) rfl rfl) ?_
  refine sq 15 rfl rfl (Y_buildS (zs := [.int .i64 0, .int .i64 0, .int .i64 0, .int .i64 0]) (vs := [(0, .int .i64 x.A), (1, .int .i64 (IntKind.i64.wrap (-x.D))), (2, .int .i64 (IntKind.i64.wrap (-x.C))), (3, .int .i64 (IntKind.i64.wrap (-x.B)))]) (cs := [.int .i64 x.A, .int .i64 (IntKind.i64.wrap (-x.D)), .int .i64 (IntKind.i64.wrap (-x.C)), .int .i64 (IntKind.i64.wrap (-x.B))]) k_pl_42 k_zero_42 rfl (mpc rfl (mpc rfl (mpc rfl (mpc rfl mpn)))) rfl) ?_
  refine sq 16 rfl rfl (Y_loadA (B := some ⟨b, 0, none⟩) (i := 0) (cs := [.int .i64 x.A, .int .i64 x.B, .int .i64 x.C, .int .i64 x.D]) (vs := [.int .i64 x.A, .int .i64 x.B, .int .i64 x.C, .int .i64 x.D]) k_ag_42 k_sz_42_4 rfl rfl (hS2.cf (i := 0) rfl) rfl rfl) ?_
  refine ss 17 rfl rfl (Ys_bslice (s := 4) (len := 1) (vs := [(0, .agg #[.int .i64 x.A, .int .i64 x.B, .int .i64 x.C, .int .i64 x.D])]) (cs := [.int .i64 x.A, .int .i64 x.B, .int .i64 x.C, .int .i64 x.D]) (zs := [.int .i64 0, .int .i64 0, .int .i64 0, .int .i64 0]) (m := 4) hS2 k_sl_171_42 k_sz_42_4 k_zc_42 rfl (mpc rfl mpn) rfl rfl rfl (by kernel_rfl) (by kernel_rfl) rfl) ?_
  rintro _ w_2 ⟨b2, rfl, hS3⟩
  have hS3 : ST w0 [] _ [⟨some ⟨b, 0, none⟩, 42, [.int .i64 x.A, .int .i64 x.B, .int .i64 x.C, .int .i64 x.D], 4⟩, ⟨some ⟨b1, 0, none⟩, 42, [.int .i64 0, .int .i64 0, .int .i64 0, .int .i64 0], 4⟩, ⟨some ⟨b2, 0, none⟩, 42, ([x].flatMap enc_Ring), 1 * 4⟩] [] := hS3
  obtain ⟨⟨r_2, r_3⟩, hc, hF⟩ := bind_inv hF
  refine sc 18 rfl rfl (Yc_func (g := 135) (vs := [.agg #[.int .i64 x.A, .int .i64 (IntKind.i64.wrap (-x.D)), .int .i64 (IntKind.i64.wrap (-x.C)), .int .i64 (IntKind.i64.wrap (-x.B))], .slice (some ⟨b2, 0, none⟩) 1 1]) k_call_135 rfl (mc rfl (mc rfl mn)) (c_impl_ringIf (TRing.mk x.A (IntKind.i64.wrap (-x.D)) (IntKind.i64.wrap (-x.C)) (IntKind.i64.wrap (-x.B))) [x] (some ⟨b2, 0, none⟩) 1 1 _ rfl (hS3.inn [false, false, true] rfl [] rfl) hc)) ?_
  rintro _ w_3 ⟨rfl, hd⟩
  have hS4 := hS3.out [false, false, true] rfl hd
  have hS4 : ST w0 [] _ [⟨some ⟨b, 0, none⟩, 42, [.int .i64 x.A, .int .i64 x.B, .int .i64 x.C, .int .i64 x.D], 4⟩, ⟨some ⟨b1, 0, none⟩, 42, [.int .i64 0, .int .i64 0, .int .i64 0, .int .i64 0], 4⟩] [] := hS4
  refine sq 19 rfl rfl (Y_extract (v := .agg #[.int .i64 r_2.A, .int .i64 r_2.B, .int .i64 r_2.C, .int .i64 r_2.D]) rfl rfl rfl) ?_
  refine sq 20 rfl rfl (Y_extract (v := .bool r_3) rfl rfl rfl) ?_
  refine ss0 rfl rfl (Ys_store (i := 1) (s := 4) (B := some ⟨b1, 0, none⟩) (T' := 42) (v := .agg #[.int .i64 r_2.A, .int .i64 r_2.B, .int .i64 r_2.C, .int .i64 r_2.D]) (vs := [.int .i64 r_2.A, .int .i64 r_2.B, .int .i64 r_2.C, .int .i64 r_2.D]) (k := 0) (cs' := [.int .i64 r_2.A, .int .i64 r_2.B, .int .i64 r_2.C, .int .i64 r_2.D]) hS4 k_sz_42_4 rfl rfl rfl rfl rfl rfl rfl (Nat.le_of_ble_eq_true rfl) rfl rfl) ?_
  rintro _ w_4 ⟨rfl, hS5⟩
  have hS5 : ST w0 [] _ [⟨some ⟨b, 0, none⟩, 42, [.int .i64 x.A, .int .i64 x.B, .int .i64 x.C, .int .i64 x.D], 4⟩, ⟨some ⟨b1, 0, none⟩, 42, [.int .i64 r_2.A, .int .i64 r_2.B, .int .i64 r_2.C, .int .i64 r_2.D], 4⟩] [] := hS5
  refine sq 3 rfl rfl (Y_assign (v := .bool r_3) rfl rfl) ?_
  refine rw_nil ?_
  refine cw_ret ?_
  obtain ⟨rfl, rfl⟩ := pr2 (some_inj hF)
  exact ret2 Try.results118 (v1 := .agg #[.int .i64 r_2.A, .int .i64 r_2.B, .int .i64 r_2.C, .int .i64 r_2.D]) (resAt_cellA (B := some ⟨b1, 0, none⟩) (i := 0) (cs := [.int .i64 r_2.A, .int .i64 r_2.B, .int .i64 r_2.C, .int .i64 r_2.D]) (vs := [.int .i64 r_2.A, .int .i64 r_2.B, .int .i64 r_2.C, .int .i64 r_2.D]) rfl k_ag_42 k_sz_42_4 (hS5.cf (i := 1) rfl) rfl rfl) (v2 := .bool r_3) (resAt_tmp rfl) ⟨rfl, (ST.subR (R' := []) (hS5.sel [] rfl rfl) (fun _ h => by cases h))⟩

theorem c_impl_ConjDyadic (x : TDyadic)  (w0 : World)  (hS : ST w0 [] w0 [] []) {r_ : TDyadic} {r_1 : Bool} (hF : F_impl_ConjDyadic x = some (r_, r_1)) :
    CV Try.prog 65 #[.agg #[.int .i64 x.Num.A, .int .i64 x.Num.B, .int .i64 x.Num.C, .int .i64 x.Num.D, .int .i64 x.Exp]] w0 (fun v w' => v = .tuple #[.agg #[.int .i64 r_.Num.A, .int .i64 r_.Num.B, .int .i64 r_.Num.C, .int .i64 r_.Num.D, .int .i64 r_.Exp], .bool r_1] ∧ ST w0 [] w' [] []) := by
  unfold F_impl_ConjDyadic at hF
  refine cv_of_cw 20 Try.func65 rfl Try.ntmps65 rfl ?_
  refine cw_seq ?_
  refine cw_region ?_
  refine ss 1 rfl rfl (Ys_box (T := 44) (v := .agg #[.int .i64 x.Num.A, .int .i64 x.Num.B, .int .i64 x.Num.C, .int .i64 x.Num.D, .int .i64 x.Exp]) (cs := [.int .i64 x.Num.A, .int .i64 x.Num.B, .int .i64 x.Num.C, .int .i64 x.Num.D, .int .i64 x.Exp]) (m := 5) hS rfl rfl rfl rfl) ?_
  rintro _ w_ ⟨b, rfl, hS1⟩
  refine ss 2 rfl rfl (Ys_alloc (T := 44) (cs := [.int .i64 0, .int .i64 0, .int .i64 0, .int .i64 0, .int .i64 0]) (m := 5) hS1 k_zero_44 rfl rfl rfl) ?_
  rintro _ w_1 ⟨b1, rfl, hS2⟩
  have hS2 : ST w0 [] _ [⟨some ⟨b, 0, none⟩, 44, [.int .i64 x.Num.A, .int .i64 x.Num.B, .int .i64 x.Num.C, .int .i64 x.Num.D, .int .i64 x.Exp], 5⟩, ⟨some ⟨b1, 0, none⟩, 44, [.int .i64 0, .int .i64 0, .int .i64 0, .int .i64 0, .int .i64 0], 5⟩] [] := hS2
  refine sq 3 rfl rfl (Y_assign (v := .bool false) rfl rfl) ?_
  refine rw_nil ?_
  refine cw_seq ?_
  refine cw_seq ?_
  refine cw_region ?_
  refine sq 6 rfl rfl (Y_loadA (B := some ⟨b, 0, none⟩) (i := 0) (cs := [.int .i64 x.Num.A, .int .i64 x.Num.B, .int .i64 x.Num.C, .int .i64 x.Num.D, .int .i64 x.Exp]) (vs := [.int .i64 x.Num.A, .int .i64 x.Num.B, .int .i64 x.Num.C, .int .i64 x.Num.D, .int .i64 x.Exp]) k_ag_44 k_sz_44_5 rfl rfl (hS2.cf (i := 0) rfl) rfl rfl) ?_
  obtain ⟨r_2, hc, hF⟩ := bind_inv hF
  refine sc 7 rfl rfl (Yc_func (g := 102) (vs := [.agg #[.int .i64 x.Num.A, .int .i64 x.Num.B, .int .i64 x.Num.C, .int .i64 x.Num.D, .int .i64 x.Exp]]) k_call_102 rfl (mc rfl mn) (c_impl_IsValidDyadic x _  (hS2.inn0 [] rfl) hc)) ?_
  rintro _ w_2 ⟨rfl, hd⟩
  have hS3 := hS2.out00 hd
  have hS3 : ST w0 [] _ [⟨some ⟨b, 0, none⟩, 44, [.int .i64 x.Num.A, .int .i64 x.Num.B, .int .i64 x.Num.C, .int .i64 x.Num.D, .int .i64 x.Exp], 5⟩, ⟨some ⟨b1, 0, none⟩, 44, [.int .i64 0, .int .i64 0, .int .i64 0, .int .i64 0, .int .i64 0], 5⟩] [] := hS3
  refine sq 8 rfl rfl (Y_not (p := r_2) rfl rfl) ?_
  refine rw_nil ?_
  refine cw_cond (b := (!r_2)) rfl (fun hb => ?_) (fun hb => ?_)
  · skip
    have hF1 := ct hF hb
    refine cw_seq ?_
    refine cw_region ?_
    refine sq 9 rfl rfl (Y_buildS (zs := [.int .i64 0, .int .i64 0, .int .i64 0, .int .i64 0, .int .i64 0]) (vs := []) (cs := [.int .i64 0, .int .i64 0, .int .i64 0, .int .i64 0, .int .i64 0]) k_pl_44 k_zero_44 rfl mpn rfl) ?_
    refine ss0 rfl rfl (Ys_store (i := 1) (s := 5) (B := some ⟨b1, 0, none⟩) (T' := 44) (v := .agg #[.int .i64 0, .int .i64 0, .int .i64 0, .int .i64 0, .int .i64 0]) (vs := [.int .i64 0, .int .i64 0, .int .i64 0, .int .i64 0, .int .i64 0]) (k := 0) (cs' := [.int .i64 0, .int .i64 0, .int .i64 0, .int .i64 0, .int .i64 0]) hS3 k_sz_44_5 rfl rfl rfl rfl rfl rfl rfl (Nat.le_of_ble_eq_true rfl) rfl rfl) ?_
    rintro _ w_3 ⟨rfl, hS4⟩
    have hS4 : ST w0 [] _ [⟨some ⟨b, 0, none⟩, 44, [.int .i64 x.Num.A, .int .i64 x.Num.B, .int .i64 x.Num.C, .int .i64 x.Num.D, .int .i64 x.Exp], 5⟩, ⟨some ⟨b1, 0, none⟩, 44, [.int .i64 0, .int .i64 0, .int .i64 0, .int .i64 0, .int .i64 0], 5⟩] [] := hS4
    refine sq 3 rfl rfl (Y_assign (v := .bool false) rfl rfl) ?_
    refine rw_nil ?_
    refine cw_ret ?_
    obtain ⟨rfl, rfl⟩ := pr2 (some_inj hF1)
    exact ret2 Try.results65 (v1 := .agg #[.int .i64 0, .int .i64 0, .int .i64 0, .int .i64 0, .int .i64 0]) (resAt_cellA (B := some ⟨b1, 0, none⟩) (i := 0) (cs := [.int .i64 0, .int .i64 0, .int .i64 0, .int .i64 0, .int .i64 0]) (vs := [.int .i64 0, .int .i64 0, .int .i64 0, .int .i64 0, .int .i64 0]) rfl k_ag_44 k_sz_44_5 (hS4.cf (i := 1) rfl) rfl rfl) (v2 := .bool false) (resAt_tmp rfl) ⟨rfl, (ST.subR (R' := []) (hS4.sel [] rfl rfl) (fun _ h => by cases h))⟩
  · skip
    have hF2 := cf' hF hb
    refine cw_skip ?_
    refine cw_seq ?_
    refine cw_region ?_
    refine sq 11 rfl rfl (Y_fieldAddr (B := some ⟨b, 0, none⟩) (i := 0) (s := 3) k_fd_44_0_0_42 k_sz_42_4 rfl rfl) ?_
    refine sq 12 rfl rfl (Y_loadA (B := some ⟨b, 0, none⟩) (i := 0) (cs := [.int .i64 x.Num.A, .int .i64 x.Num.B, .int .i64 x.Num.C, .int .i64 x.Num.D, .int .i64 x.Exp]) (vs := [.int .i64 x.Num.A, .int .i64 x.Num.B, .int .i64 x.Num.C, .int .i64 x.Num.D]) k_ag_42 k_sz_42_4 rfl rfl (hS3.cf (i := 0) rfl) rfl rfl) ?_
    obtain ⟨⟨r_3, r_4⟩, hc1, hF2⟩ := bind_inv hF2
    refine sc 13 rfl rfl (Yc_func (g := 118) (vs := [.agg #[.int .i64 x.Num.A, .int .i64 x.Num.B, .int .i64 x.Num.C, .int .i64 x.Num.D]]) k_call_118 rfl (mc rfl mn) (c_impl_Conjugate x.Num _  (hS3.inn0 [] rfl) hc1)) ?_
    rintro _ w_4 ⟨rfl, hd1⟩
    have hS5 := hS3.out00 hd1
    have hS5 : ST w0 [] _ [⟨some ⟨b, 0, none⟩, 44, [.int .i64 x.Num.A, .int .i64 x.Num.B, .int .i64 x.Num.C, .int .i64 x.Num.D, .int .i64 x.Exp], 5⟩, ⟨some ⟨b1, 0, none⟩, 44, [.int .i64 0, .int .i64 0, .int .i64 0, .int .i64 0, .int .i64 0], 5⟩] [] := hS5
    refine sq 10 rfl rfl (Y_move (v := .tuple #[.agg #[.int .i64 r_3.A, .int .i64 r_3.B, .int .i64 r_3.C, .int .i64 r_3.D], .bool r_4]) rfl rfl) ?_
    refine sq 14 rfl rfl (Y_extract (v := .agg #[.int .i64 r_3.A, .int .i64 r_3.B, .int .i64 r_3.C, .int .i64 r_3.D]) rfl rfl rfl) ?_
    refine sq 15 rfl rfl (Y_extract (v := .bool r_4) rfl rfl rfl) ?_
    refine ss 4 rfl rfl (Ys_alloc (T := 42) (cs := [.int .i64 0, .int .i64 0, .int .i64 0, .int .i64 0]) (m := 4) hS5 k_zero_42 rfl rfl rfl) ?_
    rintro _ w_5 ⟨b2, rfl, hS6⟩
    have hS6 : ST w0 [] _ [⟨some ⟨b, 0, none⟩, 44, [.int .i64 x.Num.A, .int .i64 x.Num.B, .int .i64 x.Num.C, .int .i64 x.Num.D, .int .i64 x.Exp], 5⟩, ⟨some ⟨b1, 0, none⟩, 44, [.int .i64 0, .int .i64 0, .int .i64 0, .int .i64 0, .int .i64 0], 5⟩, ⟨some ⟨b2, 0, none⟩, 42, [.int .i64 0, .int .i64 0, .int .i64 0, .int .i64 0], 4⟩] [] := hS6
    refine ss0 rfl rfl (Ys_store (i := 2) (s := 4) (B := some ⟨b2, 0, none⟩) (T' := 42) (v := .agg #[.int .i64 r_3.A, .int .i64 r_3.B, .int .i64 r_3.C, .int .i64 r_3.D]) (vs := [.int .i64 r_3.A, .int .i64 r_3.B, .int .i64 r_3.C, .int .i64 r_3.D]) (k := 0) (cs' := [.int .i64 r_3.A, .int .i64 r_3.B, .int .i64 r_3.C, .int .i64 r_3.D]) hS6 k_sz_42_4 rfl rfl rfl rfl rfl rfl rfl (Nat.le_of_ble_eq_true rfl) rfl rfl) ?_
    rintro _ w_6 ⟨rfl, hS7⟩
    have hS7 : ST w0 [] _ [⟨some ⟨b, 0, none⟩, 44, [.int .i64 x.Num.A, .int .i64 x.Num.B, .int .i64 x.Num.C, .int .i64 x.Num.D, .int .i64 x.Exp], 5⟩, ⟨some ⟨b1, 0, none⟩, 44, [.int .i64 0, .int .i64 0, .int .i64 0, .int .i64 0, .int .i64 0], 5⟩, ⟨some ⟨b2, 0, none⟩, 42, [.int .i64 r_3.A, .int .i64 r_3.B, .int .i64 r_3.C, .int .i64 r_3.D], 4⟩] [] := hS7
    refine sq 5 rfl rfl (Y_assign (v := .bool r_4) rfl rfl) ?_
    refine rw_nil ?_
    refine cw_seq ?_
    refine cw_region ?_
    refine sq 16 rfl rfl (Y_loadA (B := some ⟨b2, 0, none⟩) (i := 0) (cs := [.int .i64 r_3.A, .int .i64 r_3.B, .int .i64 r_3.C, .int .i64 r_3.D]) (vs := [.int .i64 r_3.A, .int .i64 r_3.B, .int .i64 r_3.C, .int .i64 r_3.D]) k_ag_42 k_sz_42_4 rfl rfl (hS7.cf (i := 2) rfl) rfl rfl) ?_
    refine sq 17 rfl rfl (Y_fieldAddr (B := some ⟨b, 0, none⟩) (i := 0) (s := 0) k_fd_44_1_4_3 k_sz_3_1 rfl rfl) ?_
    refine sq 18 rfl rfl (Y_load1 (B := some ⟨b, 0, none⟩) (i := 4) (cs := [.int .i64 x.Num.A, .int .i64 x.Num.B, .int .i64 x.Num.C, .int .i64 x.Num.D, .int .i64 x.Exp]) (v := .int .i64 x.Exp) k_sc_3 rfl rfl (hS7.cf (i := 0) rfl) rfl) ?_
    refine sq 19 rfl rfl (Y_buildS (zs := [.int .i64 0, .int .i64 0, .int .i64 0, .int .i64 0, .int .i64 0]) (vs := [(0, .agg #[.int .i64 r_3.A, .int .i64 r_3.B, .int .i64 r_3.C, .int .i64 r_3.D]), (1, .int .i64 x.Exp)]) (cs := [.int .i64 r_3.A, .int .i64 r_3.B, .int .i64 r_3.C, .int .i64 r_3.D, .int .i64 x.Exp]) k_pl_44 k_zero_44 rfl (mpc rfl (mpc rfl mpn)) rfl) ?_
    refine ss0 rfl rfl (Ys_store (i := 1) (s := 5) (B := some ⟨b1, 0, none⟩) (T' := 44) (v := .agg #[.int .i64 r_3.A, .int .i64 r_3.B, .int .i64 r_3.C, .int .i64 r_3.D, .int .i64 x.Exp]) (vs := [.int .i64 r_3.A, .int .i64 r_3.B, .int .i64 r_3.C, .int .i64 r_3.D, .int .i64 x.Exp]) (k := 0) (cs' := [.int .i64 r_3.A, .int .i64 r_3.B, .int .i64 r_3.C, .int .i64 r_3.D, .int .i64 x.Exp]) hS7 k_sz_44_5 rfl rfl rfl rfl rfl rfl rfl (Nat.le_of_ble_eq_true rfl) rfl rfl) ?_
    rintro _ w_7 ⟨rfl, hS8⟩
    have hS8 : ST w0 [] _ [⟨some ⟨b, 0, none⟩, 44, [.int .i64 x.Num.A, .int .i64 x.Num.B, .int .i64 x.Num.C, .int .i64 x.Num.D, .int .i64 x.Exp], 5⟩, ⟨some ⟨b1, 0, none⟩, 44, [.int .i64 r_3.A, .int .i64 r_3.B, .int .i64 r_3.C, .int .i64 r_3.D, .int .i64 x.Exp], 5⟩, ⟨some ⟨b2, 0, none⟩, 42, [.int .i64 r_3.A, .int .i64 r_3.B, .int .i64 r_3.C, .int .i64 r_3.D], 4⟩] [] := hS8
    refine sq 3 rfl rfl (Y_assign (v := .bool true) rfl rfl) ?_
    refine rw_nil ?_
    refine cw_ret ?_
    obtain ⟨rfl, rfl⟩ := pr2 (some_inj hF2)
    exact ret2 Try.results65 (v1 := .agg #[.int .i64 r_3.A, .int .i64 r_3.B, .int .i64 r_3.C, .int .i64 r_3.D, .int .i64 x.Exp]) (resAt_cellA (B := some ⟨b1, 0, none⟩) (i := 0) (cs := [.int .i64 r_3.A, .int .i64 r_3.B, .int .i64 r_3.C, .int .i64 r_3.D, .int .i64 x.Exp]) (vs := [.int .i64 r_3.A, .int .i64 r_3.B, .int .i64 r_3.C, .int .i64 r_3.D, .int .i64 x.Exp]) rfl k_ag_44 k_sz_44_5 (hS8.cf (i := 1) rfl) rfl rfl) (v2 := .bool true) (resAt_tmp rfl) ⟨rfl, (ST.subR (R' := []) (hS8.sel [] rfl rfl) (fun _ h => by cases h))⟩

theorem c_impl_Adjoint_1 (i : Int) (j : Int) (p : TMatrix) (B : Option Addr) (B1 : Option Addr) (c n : Nat) (w0 : World) (hn : p.Cells.length = n) (hS : ST w0 [] w0 [] [⟨B, [.int .i64 p.Rows, .int .i64 p.Cols, .slice B1 n c]⟩, ⟨B1, (p.Cells.flatMap enc_Dyadic)⟩]) {r_ : TDyadic} {r_1 : Bool} (hF : F_impl_Adjoint_1 i j p = some (r_, r_1)) :
    CV Try.prog 64 #[.int .i64 i, .int .i64 j, pt B 0] w0 (fun v w' => v = .tuple #[.agg #[.int .i64 r_.Num.A, .int .i64 r_.Num.B, .int .i64 r_.Num.C, .int .i64 r_.Num.D, .int .i64 r_.Exp], .bool r_1] ∧ ST w0 [] w' [] []) := by
  subst hn
  unfold F_impl_Adjoint_1 at hF
  refine cv_of_cw 14 Try.func64 rfl Try.ntmps64 rfl ?_
  refine cw_seq ?_
  refine cw_region ?_
  refine ss 5 rfl rfl (Ys_alloc (T := 44) (cs := [.int .i64 0, .int .i64 0, .int .i64 0, .int .i64 0, .int .i64 0]) (m := 5) hS k_zero_44 rfl rfl rfl) ?_
  rintro _ w_ ⟨b, rfl, hS1⟩
  refine sq 6 rfl rfl (Y_assign (v := .bool false) rfl rfl) ?_
  refine rw_nil ?_
  refine cw_seq ?_
  refine cw_region ?_
  refine sq 7 rfl rfl (Y_loadA (B := B) (i := 0) (cs := [.int .i64 p.Rows, .int .i64 p.Cols, .slice B1 p.Cells.length c]) (vs := [.int .i64 p.Rows, .int .i64 p.Cols, .slice B1 p.Cells.length c]) k_ag_26 k_sz_26_3 rfl rfl (hS1.rf (i := 0) rfl) rfl rfl) ?_
  refine sq 8 rfl rfl (Y_move (v := .int .i64 j) rfl rfl) ?_
  refine sq 9 rfl rfl (Y_move (v := .int .i64 i) rfl rfl) ?_
  obtain ⟨r_2, hc, hF⟩ := bind_inv hF
  refine sc 10 rfl rfl (Yc_func (g := 59) (vs := [.agg #[.int .i64 p.Rows, .int .i64 p.Cols, .slice B1 p.Cells.length c], .int .i64 j, .int .i64 i]) k_call_59 rfl (mc rfl (mc rfl (mc rfl mn))) (c_impl_Matrix_at p j i B1 c p.Cells.length _ rfl (hS1.inn0 [(true, 1)] rfl) hc)) ?_
  rintro _ w_1 ⟨rfl, hd⟩
  have hS2 := hS1.out00 hd
  obtain ⟨⟨r_3, r_4⟩, hc1, hF⟩ := bind_inv hF
  refine sc 11 rfl rfl (Yc_func (g := 65) (vs := [.agg #[.int .i64 r_2.Num.A, .int .i64 r_2.Num.B, .int .i64 r_2.Num.C, .int .i64 r_2.Num.D, .int .i64 r_2.Exp]]) k_call_65 rfl (mc rfl mn) (c_impl_ConjDyadic r_2 _  (hS2.inn0 [] rfl) hc1)) ?_
  rintro _ w_2 ⟨rfl, hd1⟩
  have hS3 := hS2.out00 hd1
  refine sq 12 rfl rfl (Y_extract (v := .agg #[.int .i64 r_3.Num.A, .int .i64 r_3.Num.B, .int .i64 r_3.Num.C, .int .i64 r_3.Num.D, .int .i64 r_3.Exp]) rfl rfl rfl) ?_
  refine sq 13 rfl rfl (Y_extract (v := .bool r_4) rfl rfl rfl) ?_
  refine ss0 rfl rfl (Ys_store (i := 0) (s := 5) (B := some ⟨b, 0, none⟩) (T' := 44) (v := .agg #[.int .i64 r_3.Num.A, .int .i64 r_3.Num.B, .int .i64 r_3.Num.C, .int .i64 r_3.Num.D, .int .i64 r_3.Exp]) (vs := [.int .i64 r_3.Num.A, .int .i64 r_3.Num.B, .int .i64 r_3.Num.C, .int .i64 r_3.Num.D, .int .i64 r_3.Exp]) (k := 0) (cs' := [.int .i64 r_3.Num.A, .int .i64 r_3.Num.B, .int .i64 r_3.Num.C, .int .i64 r_3.Num.D, .int .i64 r_3.Exp]) hS3 k_sz_44_5 rfl rfl rfl rfl rfl rfl rfl (Nat.le_of_ble_eq_true rfl) rfl rfl) ?_
  rintro _ w_3 ⟨rfl, hS4⟩
  refine sq 6 rfl rfl (Y_assign (v := .bool r_4) rfl rfl) ?_
  refine rw_nil ?_
  refine cw_ret ?_
  obtain ⟨rfl, rfl⟩ := pr2 (some_inj hF)
  exact ret2 Try.results64 (v1 := .agg #[.int .i64 r_3.Num.A, .int .i64 r_3.Num.B, .int .i64 r_3.Num.C, .int .i64 r_3.Num.D, .int .i64 r_3.Exp]) (resAt_cellA (B := some ⟨b, 0, none⟩) (i := 0) (cs := [.int .i64 r_3.Num.A, .int .i64 r_3.Num.B, .int .i64 r_3.Num.C, .int .i64 r_3.Num.D, .int .i64 r_3.Exp]) (vs := [.int .i64 r_3.Num.A, .int .i64 r_3.Num.B, .int .i64 r_3.Num.C, .int .i64 r_3.Num.D, .int .i64 r_3.Exp]) rfl k_ag_44 k_sz_44_5 (hS4.cf (i := 0) rfl) rfl rfl) (v2 := .bool r_4) (resAt_tmp rfl) ⟨rfl, (ST.subR (R' := []) (hS4.sel [] rfl rfl) (fun _ h => by cases h))⟩

theorem c_impl_Adjoint (m : TMatrix) (B : Option Addr) (c n : Nat) (w0 : World) (hn : m.Cells.length = n) (hS : ST w0 [] w0 [] [⟨B, (m.Cells.flatMap enc_Dyadic)⟩]) {r_ : TMatrix} {r_1 : Bool} (hF : F_impl_Adjoint m = some (r_, r_1)) :
    CV Try.prog 18 #[.agg #[.int .i64 m.Rows, .int .i64 m.Cols, .slice B n c]] w0 (fun v w' => ∃ (B1 : Option Addr) (c1 : Nat), v = .tuple #[.agg #[.int .i64 r_.Rows, .int .i64 r_.Cols, .slice B1 r_.Cells.length c1], .bool r_1] ∧ ST w0 [] w' [⟨B1, 44, (r_.Cells.flatMap enc_Dyadic), c1 * 5⟩] []) := by
  subst hn
  unfold F_impl_Adjoint at hF
  refine cv_of_cw 16 Try.func18 rfl Try.ntmps18 rfl ?_
  refine cw_seq ?_
  refine cw_region ?_
  refine ss 1 rfl rfl (Ys_box (T := 26) (v := .agg #[.int .i64 m.Rows, .int .i64 m.Cols, .slice B m.Cells.length c]) (cs := [.int .i64 m.Rows, .int .i64 m.Cols, .slice B m.Cells.length c]) (m := 3) hS rfl rfl rfl rfl) ?_
  rintro _ w_ ⟨b, rfl, hS1⟩
  refine ss 2 rfl rfl (Ys_alloc (T := 26) (cs := [.int .i64 0, .int .i64 0, .slice none 0 0]) (m := 3) hS1 k_zero_26 rfl rfl rfl) ?_
  rintro _ w_1 ⟨b1, rfl, hS2⟩
  have hS2 : ST w0 [] _ [⟨some ⟨b, 0, none⟩, 26, [.int .i64 m.Rows, .int .i64 m.Cols, .slice B m.Cells.length c], 3⟩, ⟨some ⟨b1, 0, none⟩, 26, [.int .i64 0, .int .i64 0, .slice none 0 0], 3⟩] [⟨B, (m.Cells.flatMap enc_Dyadic)⟩] := hS2
  refine sq 3 rfl rfl (Y_assign (v := .bool false) rfl rfl) ?_
  refine rw_nil ?_
  refine cw_seq ?_
  refine cw_seq ?_
  refine cw_region ?_
  refine sq 4 rfl rfl (Y_loadA (B := some ⟨b, 0, none⟩) (i := 0) (cs := [.int .i64 m.Rows, .int .i64 m.Cols, .slice B m.Cells.length c]) (vs := [.int .i64 m.Rows, .int .i64 m.Cols, .slice B m.Cells.length c]) k_ag_26 k_sz_26_3 rfl rfl (hS2.cf (i := 0) rfl) rfl rfl) ?_
  obtain ⟨r_2, hc, hF⟩ := bind_inv hF
  refine sc 5 rfl rfl (Yc_func (g := 57) (vs := [.agg #[.int .i64 m.Rows, .int .i64 m.Cols, .slice B m.Cells.length c]]) k_call_57 rfl (mc rfl mn) (c_impl_IsValidMatrix m B c m.Cells.length _ rfl (hS2.inn0 [(true, 0)] rfl) hc)) ?_
  rintro _ w_2 ⟨rfl, hd⟩
  have hS3 := hS2.out00 hd
  have hS3 : ST w0 [] _ [⟨some ⟨b, 0, none⟩, 26, [.int .i64 m.Rows, .int .i64 m.Cols, .slice B m.Cells.length c], 3⟩, ⟨some ⟨b1, 0, none⟩, 26, [.int .i64 0, .int .i64 0, .slice none 0 0], 3⟩] [⟨B, (m.Cells.flatMap enc_Dyadic)⟩] := hS3
  refine sq 6 rfl rfl (Y_not (p := r_2) rfl rfl) ?_
  refine rw_nil ?_
  refine cw_cond (b := (!r_2)) rfl (fun hb => ?_) (fun hb => ?_)
  · skip
    have hF1 := ct hF hb
    refine cw_seq ?_
    refine cw_region ?_
    refine sq 7 rfl rfl (Y_buildS (zs := [.int .i64 0, .int .i64 0, .slice none 0 0]) (vs := []) (cs := [.int .i64 0, .int .i64 0, .slice none 0 0]) k_pl_26 k_zero_26 rfl mpn rfl) ?_
    refine ss0 rfl rfl (Ys_store (i := 1) (s := 3) (B := some ⟨b1, 0, none⟩) (T' := 26) (v := .agg #[.int .i64 0, .int .i64 0, .slice none 0 0]) (vs := [.int .i64 0, .int .i64 0, .slice none 0 0]) (k := 0) (cs' := [.int .i64 0, .int .i64 0, .slice none 0 0]) hS3 k_sz_26_3 rfl rfl rfl rfl rfl rfl rfl (Nat.le_of_ble_eq_true rfl) rfl rfl) ?_
    rintro _ w_3 ⟨rfl, hS4⟩
    have hS4 : ST w0 [] _ [⟨some ⟨b, 0, none⟩, 26, [.int .i64 m.Rows, .int .i64 m.Cols, .slice B m.Cells.length c], 3⟩, ⟨some ⟨b1, 0, none⟩, 26, [.int .i64 0, .int .i64 0, .slice none 0 0], 3⟩] [⟨B, (m.Cells.flatMap enc_Dyadic)⟩] := hS4
    refine sq 3 rfl rfl (Y_assign (v := .bool false) rfl rfl) ?_
    refine rw_nil ?_
    refine cw_ret ?_
    have hS5 := hS4.addNil 44
    obtain ⟨rfl, rfl⟩ := pr2 (some_inj hF1)
    exact ret2 Try.results18 (v1 := .agg #[.int .i64 0, .int .i64 0, .slice none 0 0]) (resAt_cellA (B := some ⟨b1, 0, none⟩) (i := 0) (cs := [.int .i64 0, .int .i64 0, .slice none 0 0]) (vs := [.int .i64 0, .int .i64 0, .slice none 0 0]) rfl k_ag_26 k_sz_26_3 (hS5.cf (i := 1) rfl) rfl rfl) (v2 := .bool false) (resAt_tmp rfl) ⟨none, 0, rfl, (ST.subR (R' := []) (hS5.sel [2] rfl rfl) (fun _ h => by cases h))⟩
  · skip
    have hF2 := cf' hF hb
    refine cw_skip ?_
    refine cw_seq ?_
    refine cw_region ?_
    refine sq 8 rfl rfl (Y_fieldAddr (B := some ⟨b, 0, none⟩) (i := 0) (s := 0) k_fd_26_1_1_3 k_sz_3_1 rfl rfl) ?_
    refine sq 9 rfl rfl (Y_load1 (B := some ⟨b, 0, none⟩) (i := 1) (cs := [.int .i64 m.Rows, .int .i64 m.Cols, .slice B m.Cells.length c]) (v := .int .i64 m.Cols) k_sc_3 rfl rfl (hS3.cf (i := 0) rfl) rfl) ?_
    refine sq 10 rfl rfl (Y_fieldAddr (B := some ⟨b, 0, none⟩) (i := 0) (s := 0) k_fd_26_0_0_3 k_sz_3_1 rfl rfl) ?_
    refine sq 11 rfl rfl (Y_load1 (B := some ⟨b, 0, none⟩) (i := 0) (cs := [.int .i64 m.Rows, .int .i64 m.Cols, .slice B m.Cells.length c]) (v := .int .i64 m.Rows) k_sc_3 rfl rfl (hS3.cf (i := 0) rfl) rfl) ?_
    refine sq 12 rfl rfl (Y_makeFunc (cs := [pt (some ⟨b, 0, none⟩) 0]) rfl rfl (mc rfl mn)) ?_
    obtain ⟨⟨r_3, r_4⟩, hc1, hF2⟩ := bind_inv hF2
    refine sc 13 rfl rfl (Yc_func (g := 43) (vs := [.int .i64 m.Cols, .int .i64 m.Rows, .func (.func 64) #[] #[pt (some ⟨b, 0, none⟩) 0]]) k_call_43 rfl (mc rfl (mc rfl (mc rfl mn))) (c_impl_matrixOf m.Cols m.Rows (fun x_0 x_1 => F_impl_Adjoint_1 x_0 x_1 m) 64 (#[pt (some ⟨b, 0, none⟩) 0]) [⟨some ⟨b, 0, none⟩, [.int .i64 m.Rows, .int .i64 m.Cols, .slice B m.Cells.length c]⟩, ⟨B, (m.Cells.flatMap enc_Dyadic)⟩] _ k_call_64 (fun w hw x_0 x_1 y_0 y_1 h_ => c_impl_Adjoint_1 x_0 x_1 m (some ⟨b, 0, none⟩) B c m.Cells.length w rfl hw h_) (hS3.inn0 [(false, 0), (true, 0)] rfl) hc1)) ?_
    rintro _ w_4 ⟨B2, c2, rfl, hd1⟩
    have hS6 := hS3.out0 hd1
    have hS6 : ST w0 [] _ [⟨some ⟨b, 0, none⟩, 26, [.int .i64 m.Rows, .int .i64 m.Cols, .slice B m.Cells.length c], 3⟩, ⟨some ⟨b1, 0, none⟩, 26, [.int .i64 0, .int .i64 0, .slice none 0 0], 3⟩, ⟨B2, 44, (r_3.Cells.flatMap enc_Dyadic), c2 * 5⟩] [⟨B, (m.Cells.flatMap enc_Dyadic)⟩] := hS6
    refine sq 14 rfl rfl (Y_extract (v := .agg #[.int .i64 r_3.Rows, .int .i64 r_3.Cols, .slice B2 r_3.Cells.length c2]) rfl rfl rfl) ?_
    refine sq 15 rfl rfl (Y_extract (v := .bool r_4) rfl rfl rfl) ?_
    refine ss0 rfl rfl (Ys_store (i := 1) (s := 3) (B := some ⟨b1, 0, none⟩) (T' := 26) (v := .agg #[.int .i64 r_3.Rows, .int .i64 r_3.Cols, .slice B2 r_3.Cells.length c2]) (vs := [.int .i64 r_3.Rows, .int .i64 r_3.Cols, .slice B2 r_3.Cells.length c2]) (k := 0) (cs' := [.int .i64 r_3.Rows, .int .i64 r_3.Cols, .slice B2 r_3.Cells.length c2]) hS6 k_sz_26_3 rfl rfl rfl rfl rfl rfl rfl (Nat.le_of_ble_eq_true rfl) rfl rfl) ?_
    rintro _ w_5 ⟨rfl, hS7⟩
    have hS7 : ST w0 [] _ [⟨some ⟨b, 0, none⟩, 26, [.int .i64 m.Rows, .int .i64 m.Cols, .slice B m.Cells.length c], 3⟩, ⟨some ⟨b1, 0, none⟩, 26, [.int .i64 r_3.Rows, .int .i64 r_3.Cols, .slice B2 r_3.Cells.length c2], 3⟩, ⟨B2, 44, (r_3.Cells.flatMap enc_Dyadic), c2 * 5⟩] [⟨B, (m.Cells.flatMap enc_Dyadic)⟩] := hS7
    refine sq 3 rfl rfl (Y_assign (v := .bool r_4) rfl rfl) ?_
    refine rw_nil ?_
    refine cw_ret ?_
    obtain ⟨rfl, rfl⟩ := pr2 (some_inj hF2)
    exact ret2 Try.results18 (v1 := .agg #[.int .i64 r_3.Rows, .int .i64 r_3.Cols, .slice B2 r_3.Cells.length c2]) (resAt_cellA (B := some ⟨b1, 0, none⟩) (i := 0) (cs := [.int .i64 r_3.Rows, .int .i64 r_3.Cols, .slice B2 r_3.Cells.length c2]) (vs := [.int .i64 r_3.Rows, .int .i64 r_3.Cols, .slice B2 r_3.Cells.length c2]) rfl k_ag_26 k_sz_26_3 (hS7.cf (i := 1) rfl) rfl rfl) (v2 := .bool r_4) (resAt_tmp rfl) ⟨B2, c2, rfl, (ST.subR (R' := []) (hS7.sel [2] rfl rfl) (fun _ h => by cases h))⟩

theorem c_impl_whole (n : Int)  (w0 : World)  (hS : ST w0 [] w0 [] []) {r_ : TDyadic} (hF : F_impl_whole n = some r_) :
    CV Try.prog 67 #[.int .i64 n] w0 (fun v w' => v = .agg #[.int .i64 r_.Num.A, .int .i64 r_.Num.B, .int .i64 r_.Num.C, .int .i64 r_.Num.D, .int .i64 r_.Exp] ∧ ST w0 [] w' [] []) := by
  unfold F_impl_whole at hF
  refine cv_of_cw 6 Try.func67 rfl Try.ntmps67 rfl ?_
  refine cw_seq ?_
  refine cw_region ?_
  refine ss 2 rfl rfl (Ys_alloc (T := 44) (cs := [.int .i64 0, .int .i64 0, .int .i64 0, .int .i64 0, .int .i64 0]) (m := 5) hS k_zero_44 rfl rfl rfl) ?_
  rintro _ w_ ⟨b, rfl, hS1⟩
  refine rw_nil ?_
  refine cw_seq ?_
  refine cw_region ?_
  refine sq 3 rfl rfl (Y_move (v := .int .i64 n) rfl rfl) ?_
  refine sq 4 rfl rfl (Y_buildS (zs := [.int .i64 0, .int .i64 0, .int .i64 0, .int .i64 0]) (vs := [(0, .int .i64 n)]) (cs := [.int .i64 n, .int .i64 0, .int .i64 0, .int .i64 0]) k_pl_42 k_zero_42 rfl (mpc rfl mpn) rfl) ?_
  refine sq 5 rfl rfl (Y_buildS (zs := [.int .i64 0, .int .i64 0, .int .i64 0, .int .i64 0, .int .i64 0]) (vs := [(0, .agg #[.int .i64 n, .int .i64 0, .int .i64 0, .int .i64 0])]) (cs := [.int .i64 n, .int .i64 0, .int .i64 0, .int .i64 0, .int .i64 0]) k_pl_44 k_zero_44 rfl (mpc rfl mpn) rfl) ?_
  refine ss0 rfl rfl (Ys_store (i := 0) (s := 5) (B := some ⟨b, 0, none⟩) (T' := 44) (v := .agg #[.int .i64 n, .int .i64 0, .int .i64 0, .int .i64 0, .int .i64 0]) (vs := [.int .i64 n, .int .i64 0, .int .i64 0, .int .i64 0, .int .i64 0]) (k := 0) (cs' := [.int .i64 n, .int .i64 0, .int .i64 0, .int .i64 0, .int .i64 0]) hS1 k_sz_44_5 rfl rfl rfl rfl rfl rfl rfl (Nat.le_of_ble_eq_true rfl) rfl rfl) ?_
  rintro _ w_1 ⟨rfl, hS2⟩
  refine rw_nil ?_
  refine cw_ret ?_
  obtain rfl := some_inj hF
  exact ret1 Try.results67 (v1 := .agg #[.int .i64 n, .int .i64 0, .int .i64 0, .int .i64 0, .int .i64 0]) (resAt_cellA (B := some ⟨b, 0, none⟩) (i := 0) (cs := [.int .i64 n, .int .i64 0, .int .i64 0, .int .i64 0, .int .i64 0]) (vs := [.int .i64 n, .int .i64 0, .int .i64 0, .int .i64 0, .int .i64 0]) rfl k_ag_44 k_sz_44_5 (hS2.cf (i := 0) rfl) rfl rfl) ⟨rfl, (ST.subR (R' := []) (hS2.sel [] rfl rfl) (fun _ h => by cases h))⟩

theorem c_impl_IdentityMatrix_1 (i : Int) (j : Int)  (w0 : World)  (hS : ST w0 [] w0 [] []) {r_ : TDyadic} {r_1 : Bool} (hF : F_impl_IdentityMatrix_1 i j = some (r_, r_1)) :
    CV Try.prog 66 #[.int .i64 i, .int .i64 j] w0 (fun v w' => v = .tuple #[.agg #[.int .i64 r_.Num.A, .int .i64 r_.Num.B, .int .i64 r_.Num.C, .int .i64 r_.Num.D, .int .i64 r_.Exp], .bool r_1] ∧ ST w0 [] w' [] []) := by
  unfold F_impl_IdentityMatrix_1 at hF
  refine cv_of_cw 11 Try.func66 rfl Try.ntmps66 rfl ?_
  refine cw_seq ?_
  refine cw_region ?_
  refine ss 4 rfl rfl (Ys_alloc (T := 44) (cs := [.int .i64 0, .int .i64 0, .int .i64 0, .int .i64 0, .int .i64 0]) (m := 5) hS k_zero_44 rfl rfl rfl) ?_
  rintro _ w_ ⟨b, rfl, hS1⟩
  refine sq 5 rfl rfl (Y_assign (v := .bool false) rfl rfl) ?_
  refine rw_nil ?_
  refine cw_seq ?_
  refine cw_seq ?_
  refine cw_region ?_
  refine sq 6 rfl rfl (Y_move (v := .int .i64 i) rfl rfl) ?_
  refine sq 7 rfl rfl (Y_move (v := .int .i64 j) rfl rfl) ?_
  refine sq 8 rfl rfl (Y_eq (k := .i64) (a := i) (b := j) rfl rfl rfl) ?_
  refine rw_nil ?_
  refine cw_cond (b := (i == j)) rfl (fun hb => ?_) (fun hb => ?_)
  · skip
    have hF1 := ct hF hb
    refine cw_seq ?_
    refine cw_region ?_
    obtain ⟨r_2, hc, hF1⟩ := bind_inv hF1
    refine sc 9 rfl rfl (Yc_func (g := 67) (vs := [.int .i64 1]) k_call_67 rfl (mc rfl mn) (c_impl_whole 1 _  (hS1.inn0 [] rfl) hc)) ?_
    rintro _ w_1 ⟨rfl, hd⟩
    have hS2 := hS1.out00 hd
    refine ss0 rfl rfl (Ys_store (i := 0) (s := 5) (B := some ⟨b, 0, none⟩) (T' := 44) (v := .agg #[.int .i64 r_2.Num.A, .int .i64 r_2.Num.B, .int .i64 r_2.Num.C, .int .i64 r_2.Num.D, .int .i64 r_2.Exp]) (vs := [.int .i64 r_2.Num.A, .int .i64 r_2.Num.B, .int .i64 r_2.Num.C, .int .i64 r_2.Num.D, .int .i64 r_2.Exp]) (k := 0) (cs' := [.int .i64 r_2.Num.A, .int .i64 r_2.Num.B, .int .i64 r_2.Num.C, .int .i64 r_2.Num.D, .int .i64 r_2.Exp]) hS2 k_sz_44_5 rfl rfl rfl rfl rfl rfl rfl (Nat.le_of_ble_eq_true rfl) rfl rfl) ?_
    rintro _ w_2 ⟨rfl, hS3⟩
    refine sq 5 rfl rfl (Y_assign (v := .bool true) rfl rfl) ?_
    refine rw_nil ?_
    refine cw_ret ?_
    obtain ⟨rfl, rfl⟩ := pr2 (some_inj hF1)
    exact ret2 Try.results66 (v1 := .agg #[.int .i64 r_2.Num.A, .int .i64 r_2.Num.B, .int .i64 r_2.Num.C, .int .i64 r_2.Num.D, .int .i64 r_2.Exp]) (resAt_cellA (B := some ⟨b, 0, none⟩) (i := 0) (cs := [.int .i64 r_2.Num.A, .int .i64 r_2.Num.B, .int .i64 r_2.Num.C, .int .i64 r_2.Num.D, .int .i64 r_2.Exp]) (vs := [.int .i64 r_2.Num.A, .int .i64 r_2.Num.B, .int .i64 r_2.Num.C, .int .i64 r_2.Num.D, .int .i64 r_2.Exp]) rfl k_ag_44 k_sz_44_5 (hS3.cf (i := 0) rfl) rfl rfl) (v2 := .bool true) (resAt_tmp rfl) ⟨rfl, (ST.subR (R' := []) (hS3.sel [] rfl rfl) (fun _ h => by cases h))⟩
  · skip
    have hF2 := cf' hF hb
    refine cw_skip ?_
    refine cw_seq ?_
    refine cw_region ?_
    refine sq 10 rfl rfl (Y_buildS (zs := [.int .i64 0, .int .i64 0, .int .i64 0, .int .i64 0, .int .i64 0]) (vs := []) (cs := [.int .i64 0, .int .i64 0, .int .i64 0, .int .i64 0, .int .i64 0]) k_pl_44 k_zero_44 rfl mpn rfl) ?_
    refine ss0 rfl rfl (Ys_store (i := 0) (s := 5) (B := some ⟨b, 0, none⟩) (T' := 44) (v := .agg #[.int .i64 0, .int .i64 0, .int .i64 0, .int .i64 0, .int .i64 0]) (vs := [.int .i64 0, .int .i64 0, .int .i64 0, .int .i64 0, .int .i64 0]) (k := 0) (cs' := [.int .i64 0, .int .i64 0, .int .i64 0, .int .i64 0, .int .i64 0]) hS1 k_sz_44_5 rfl rfl rfl rfl rfl rfl rfl (Nat.le_of_ble_eq_true rfl) rfl rfl) ?_
    rintro _ w_3 ⟨rfl, hS4⟩
    refine sq 5 rfl rfl (Y_assign (v := .bool true) rfl rfl) ?_
    refine rw_nil ?_
    refine cw_ret ?_
    obtain ⟨rfl, rfl⟩ := pr2 (some_inj hF2)
    exact ret2 Try.results66 (v1 := .agg #[.int .i64 0, .int .i64 0, .int .i64 0, .int .i64 0, .int .i64 0]) (resAt_cellA (B := some ⟨b, 0, none⟩) (i := 0) (cs := [.int .i64 0, .int .i64 0, .int .i64 0, .int .i64 0, .int .i64 0]) (vs := [.int .i64 0, .int .i64 0, .int .i64 0, .int .i64 0, .int .i64 0]) rfl k_ag_44 k_sz_44_5 (hS4.cf (i := 0) rfl) rfl rfl) (v2 := .bool true) (resAt_tmp rfl) ⟨rfl, (ST.subR (R' := []) (hS4.sel [] rfl rfl) (fun _ h => by cases h))⟩

theorem c_impl_IdentityMatrix (n : Int)  (w0 : World)  (hS : ST w0 [] w0 [] []) {r_ : TMatrix} {r_1 : Bool} (hF : F_impl_IdentityMatrix n = some (r_, r_1)) :
    CV Try.prog 19 #[.int .i64 n] w0 (fun v w' => ∃ (B : Option Addr) (c : Nat), v = .tuple #[.agg #[.int .i64 r_.Rows, .int .i64 r_.Cols, .slice B r_.Cells.length c], .bool r_1] ∧ ST w0 [] w' [⟨B, 44, (r_.Cells.flatMap enc_Dyadic), c * 5⟩] []) := by
  unfold F_impl_IdentityMatrix at hF
  refine cv_of_cw 9 Try.func19 rfl Try.ntmps19 rfl ?_
  refine cw_seq ?_
  refine cw_region ?_
  refine ss 2 rfl rfl (Ys_alloc (T := 26) (cs := [.int .i64 0, .int .i64 0, .slice none 0 0]) (m := 3) hS k_zero_26 rfl rfl rfl) ?_
  rintro _ w_ ⟨b, rfl, hS1⟩
  refine sq 3 rfl rfl (Y_assign (v := .bool false) rfl rfl) ?_
  refine rw_nil ?_
  refine cw_seq ?_
  refine cw_region ?_
  refine sq 4 rfl rfl (Y_move (v := .int .i64 n) rfl rfl) ?_
  refine sq 5 rfl rfl (Y_move (v := .int .i64 n) rfl rfl) ?_
  obtain ⟨⟨r_2, r_3⟩, hc, hF⟩ := bind_inv hF
  refine sc 6 rfl rfl (Yc_func (g := 43) (vs := [.int .i64 n, .int .i64 n, .func (.func 66) #[] #[]]) k_call_43 rfl (mc rfl (mc rfl (mc rfl mn))) (c_impl_matrixOf n n F_impl_IdentityMatrix_1 66 (#[]) [] _ k_call_66 (fun w hw x_0 x_1 y_0 y_1 h_ => c_impl_IdentityMatrix_1 x_0 x_1  w  hw h_) (hS1.inn0 [] rfl) hc)) ?_
  rintro _ w_1 ⟨B1, c1, rfl, hd⟩
  have hS2 := hS1.out0 hd
  have hS2 : ST w0 [] _ [⟨some ⟨b, 0, none⟩, 26, [.int .i64 0, .int .i64 0, .slice none 0 0], 3⟩, ⟨B1, 44, (r_2.Cells.flatMap enc_Dyadic), c1 * 5⟩] [] := hS2
  refine sq 7 rfl rfl (Y_extract (v := .agg #[.int .i64 r_2.Rows, .int .i64 r_2.Cols, .slice B1 r_2.Cells.length c1]) rfl rfl rfl) ?_
  refine sq 8 rfl rfl (Y_extract (v := .bool r_3) rfl rfl rfl) ?_
  refine ss0 rfl rfl (Ys_store (i := 0) (s := 3) (B := some ⟨b, 0, none⟩) (T' := 26) (v := .agg #[.int .i64 r_2.Rows, .int .i64 r_2.Cols, .slice B1 r_2.Cells.length c1]) (vs := [.int .i64 r_2.Rows, .int .i64 r_2.Cols, .slice B1 r_2.Cells.length c1]) (k := 0) (cs' := [.int .i64 r_2.Rows, .int .i64 r_2.Cols, .slice B1 r_2.Cells.length c1]) hS2 k_sz_26_3 rfl rfl rfl rfl rfl rfl rfl (Nat.le_of_ble_eq_true rfl) rfl rfl) ?_
  rintro _ w_2 ⟨rfl, hS3⟩
  have hS3 : ST w0 [] _ [⟨some ⟨b, 0, none⟩, 26, [.int .i64 r_2.Rows, .int .i64 r_2.Cols, .slice B1 r_2.Cells.length c1], 3⟩, ⟨B1, 44, (r_2.Cells.flatMap enc_Dyadic), c1 * 5⟩] [] := hS3
  refine sq 3 rfl rfl (Y_assign (v := .bool r_3) rfl rfl) ?_
  refine rw_nil ?_
  refine cw_ret ?_
  obtain ⟨rfl, rfl⟩ := pr2 (some_inj hF)
  exact ret2 Try.results19 (v1 := .agg #[.int .i64 r_2.Rows, .int .i64 r_2.Cols, .slice B1 r_2.Cells.length c1]) (resAt_cellA (B := some ⟨b, 0, none⟩) (i := 0) (cs := [.int .i64 r_2.Rows, .int .i64 r_2.Cols, .slice B1 r_2.Cells.length c1]) (vs := [.int .i64 r_2.Rows, .int .i64 r_2.Cols, .slice B1 r_2.Cells.length c1]) rfl k_ag_26 k_sz_26_3 (hS3.cf (i := 0) rfl) rfl rfl) (v2 := .bool r_3) (resAt_tmp rfl) ⟨B1, c1, rfl, (ST.subR (R' := []) (hS3.sel [1] rfl rfl) (fun _ h => by cases h))⟩

theorem c_impl_TraceOf (m : TMatrix) (B : Option Addr) (c n : Nat) (w0 : World) (hn : m.Cells.length = n) (hS : ST w0 [] w0 [] [⟨B, (m.Cells.flatMap enc_Dyadic)⟩]) {r_ : TDyadic} {r_1 : Bool} (hF : F_impl_TraceOf m = some (r_, r_1)) :
    CV Try.prog 20 #[.agg #[.int .i64 m.Rows, .int .i64 m.Cols, .slice B n c]] w0 (fun v w' => v = .tuple #[.agg #[.int .i64 r_.Num.A, .int .i64 r_.Num.B, .int .i64 r_.Num.C, .int .i64 r_.Num.D, .int .i64 r_.Exp], .bool r_1] ∧ ST w0 [] w' [] []) := by
  subst hn
  unfold F_impl_TraceOf at hF
  refine cv_of_cw 39 Try.func20 rfl Try.ntmps20 rfl ?_
  refine cw_seq ?_
  refine cw_region ?_
  refine ss 1 rfl rfl (Ys_box (T := 26) (v := .agg #[.int .i64 m.Rows, .int .i64 m.Cols, .slice B m.Cells.length c]) (cs := [.int .i64 m.Rows, .int .i64 m.Cols, .slice B m.Cells.length c]) (m := 3) hS rfl rfl rfl rfl) ?_
  rintro _ w_ ⟨b, rfl, hS1⟩
  refine ss 2 rfl rfl (Ys_alloc (T := 44) (cs := [.int .i64 0, .int .i64 0, .int .i64 0, .int .i64 0, .int .i64 0]) (m := 5) hS1 k_zero_44 rfl rfl rfl) ?_
  rintro _ w_1 ⟨b1, rfl, hS2⟩
  have hS2 : ST w0 [] _ [⟨some ⟨b, 0, none⟩, 26, [.int .i64 m.Rows, .int .i64 m.Cols, .slice B m.Cells.length c], 3⟩, ⟨some ⟨b1, 0, none⟩, 44, [.int .i64 0, .int .i64 0, .int .i64 0, .int .i64 0, .int .i64 0], 5⟩] [⟨B, (m.Cells.flatMap enc_Dyadic)⟩] := hS2
  refine sq 3 rfl rfl (Y_assign (v := .bool false) rfl rfl) ?_
  refine rw_nil ?_
  refine cw_seq ?_
  refine cw_seq ?_
  refine cw_region ?_
  refine sq 7 rfl rfl (Y_loadA (B := some ⟨b, 0, none⟩) (i := 0) (cs := [.int .i64 m.Rows, .int .i64 m.Cols, .slice B m.Cells.length c]) (vs := [.int .i64 m.Rows, .int .i64 m.Cols, .slice B m.Cells.length c]) k_ag_26 k_sz_26_3 rfl rfl (hS2.cf (i := 0) rfl) rfl rfl) ?_
  obtain ⟨r_2, hc, hF⟩ := bind_inv hF
  refine sc 8 rfl rfl (Yc_func (g := 57) (vs := [.agg #[.int .i64 m.Rows, .int .i64 m.Cols, .slice B m.Cells.length c]]) k_call_57 rfl (mc rfl mn) (c_impl_IsValidMatrix m B c m.Cells.length _ rfl (hS2.inn0 [(true, 0)] rfl) hc)) ?_
  rintro _ w_2 ⟨rfl, hd⟩
  have hS3 := hS2.out00 hd
  have hS3 : ST w0 [] _ [⟨some ⟨b, 0, none⟩, 26, [.int .i64 m.Rows, .int .i64 m.Cols, .slice B m.Cells.length c], 3⟩, ⟨some ⟨b1, 0, none⟩, 44, [.int .i64 0, .int .i64 0, .int .i64 0, .int .i64 0, .int .i64 0], 5⟩] [⟨B, (m.Cells.flatMap enc_Dyadic)⟩] := hS3
  refine sq 9 rfl rfl (Y_not (p := r_2) rfl rfl) ?_
  refine sq 10 rfl rfl (Y_move (v := .bool (!r_2)) rfl rfl) ?_
  refine sgq 11 (B := (!(!r_2))) (v := pt (some ⟨b, 0, none⟩) 0) rfl rfl (wt_f (gd_of (t := 10) (by kernel_rfl) rfl)) (fun hg => (Y_fieldAddr (B := some ⟨b, 0, none⟩) (i := 0) (s := 0) k_fd_26_0_0_3 k_sz_3_1 rfl rfl)) ?_
  refine sgq 12 (B := (!(!r_2))) (v := .int .i64 m.Rows) rfl rfl (wt_f (gd_of (t := 10) (by kernel_rfl) rfl)) (fun hg1 => (Y_load1 (B := some ⟨b, 0, none⟩) (i := 0) (cs := [.int .i64 m.Rows, .int .i64 m.Cols, .slice B m.Cells.length c]) (v := .int .i64 m.Rows) k_sc_3 rfl (gv_of (B := (!(!r_2))) (v := pt (some ⟨b, 0, none⟩) 0) hg1) (hS3.cf (i := 0) rfl) rfl)) ?_
  refine sgq 13 (B := (!(!r_2))) (v := pt (some ⟨b, 0, none⟩) 1) rfl rfl (wt_f (gd_of (t := 10) (by kernel_rfl) rfl)) (fun hg2 => (Y_fieldAddr (B := some ⟨b, 0, none⟩) (i := 0) (s := 0) k_fd_26_1_1_3 k_sz_3_1 rfl rfl)) ?_
  refine sgq 14 (B := (!(!r_2))) (v := .int .i64 m.Cols) rfl rfl (wt_f (gd_of (t := 10) (by kernel_rfl) rfl)) (fun hg3 => (Y_load1 (B := some ⟨b, 0, none⟩) (i := 1) (cs := [.int .i64 m.Rows, .int .i64 m.Cols, .slice B m.Cells.length c]) (v := .int .i64 m.Cols) k_sc_3 rfl (gv_of (B := (!(!r_2))) (v := pt (some ⟨b, 0, none⟩) 1) hg3) (hS3.cf (i := 0) rfl) rfl)) ?_
  refine sgq 15 (B := (!(!r_2))) (v := .bool (m.Rows != m.Cols)) rfl rfl (wt_f (gd_of (t := 10) (by kernel_rfl) rfl)) (fun hg4 => (Y_ne (k := .i64) (a := m.Rows) (b := m.Cols) rfl (gv_of (B := (!(!r_2))) (v := .int .i64 m.Rows) hg4) (gv_of (B := (!(!r_2))) (v := .int .i64 m.Cols) hg4))) ?_
  refine sq 16 rfl rfl (Y_or (b := (!r_2)) (z := (m.Rows != m.Cols)) rfl rfl rfl rfl) ?_
  refine rw_nil ?_
  refine cw_cond (b := ((!r_2) || (m.Rows != m.Cols))) rfl (fun hb => ?_) (fun hb => ?_)
  · skip
    have hF1 := ct hF hb
    refine cw_seq ?_
    refine cw_region ?_
    refine sq 17 rfl rfl (Y_buildS (zs := [.int .i64 0, .int .i64 0, .int .i64 0, .int .i64 0, .int .i64 0]) (vs := []) (cs := [.int .i64 0, .int .i64 0, .int .i64 0, .int .i64 0, .int .i64 0]) k_pl_44 k_zero_44 rfl mpn rfl) ?_
    refine ss0 rfl rfl (Ys_store (i := 1) (s := 5) (B := some ⟨b1, 0, none⟩) (T' := 44) (v := .agg #[.int .i64 0, .int .i64 0, .int .i64 0, .int .i64 0, .int .i64 0]) (vs := [.int .i64 0, .int .i64 0, .int .i64 0, .int .i64 0, .int .i64 0]) (k := 0) (cs' := [.int .i64 0, .int .i64 0, .int .i64 0, .int .i64 0, .int .i64 0]) hS3 k_sz_44_5 rfl rfl rfl rfl rfl rfl rfl (Nat.le_of_ble_eq_true rfl) rfl rfl) ?_
    rintro _ w_3 ⟨rfl, hS4⟩
    have hS4 : ST w0 [] _ [⟨some ⟨b, 0, none⟩, 26, [.int .i64 m.Rows, .int .i64 m.Cols, .slice B m.Cells.length c], 3⟩, ⟨some ⟨b1, 0, none⟩, 44, [.int .i64 0, .int .i64 0, .int .i64 0, .int .i64 0, .int .i64 0], 5⟩] [⟨B, (m.Cells.flatMap enc_Dyadic)⟩] := hS4
    refine sq 3 rfl rfl (Y_assign (v := .bool false) rfl rfl) ?_
    refine rw_nil ?_
    refine cw_ret ?_
    obtain ⟨rfl, rfl⟩ := pr2 (some_inj hF1)
    exact ret2 Try.results20 (v1 := .agg #[.int .i64 0, .int .i64 0, .int .i64 0, .int .i64 0, .int .i64 0]) (resAt_cellA (B := some ⟨b1, 0, none⟩) (i := 0) (cs := [.int .i64 0, .int .i64 0, .int .i64 0, .int .i64 0, .int .i64 0]) (vs := [.int .i64 0, .int .i64 0, .int .i64 0, .int .i64 0, .int .i64 0]) rfl k_ag_44 k_sz_44_5 (hS4.cf (i := 1) rfl) rfl rfl) (v2 := .bool false) (resAt_tmp rfl) ⟨rfl, (ST.subR (R' := []) (hS4.sel [] rfl rfl) (fun _ h => by cases h))⟩
  · skip
    have hF2 := cf' hF hb
    refine cw_skip ?_
    refine cw_seq ?_
    refine cw_region ?_
    refine sq 18 rfl rfl (Y_buildS (zs := [.int .i64 0, .int .i64 0, .int .i64 0, .int .i64 0, .int .i64 0]) (vs := []) (cs := [.int .i64 0, .int .i64 0, .int .i64 0, .int .i64 0, .int .i64 0]) k_pl_44 k_zero_44 rfl mpn rfl) ?_
    refine ss 4 rfl rfl (Ys_alloc (T := 44) (cs := [.int .i64 0, .int .i64 0, .int .i64 0, .int .i64 0, .int .i64 0]) (m := 5) hS3 k_zero_44 rfl rfl rfl) ?_
    rintro _ w_4 ⟨b2, rfl, hS5⟩
    have hS5 : ST w0 [] _ [⟨some ⟨b, 0, none⟩, 26, [.int .i64 m.Rows, .int .i64 m.Cols, .slice B m.Cells.length c], 3⟩, ⟨some ⟨b1, 0, none⟩, 44, [.int .i64 0, .int .i64 0, .int .i64 0, .int .i64 0, .int .i64 0], 5⟩, ⟨some ⟨b2, 0, none⟩, 44, [.int .i64 0, .int .i64 0, .int .i64 0, .int .i64 0, .int .i64 0], 5⟩] [⟨B, (m.Cells.flatMap enc_Dyadic)⟩] := hS5
    refine ss0 rfl rfl (Ys_store (i := 2) (s := 5) (B := some ⟨b2, 0, none⟩) (T' := 44) (v := .agg #[.int .i64 0, .int .i64 0, .int .i64 0, .int .i64 0, .int .i64 0]) (vs := [.int .i64 0, .int .i64 0, .int .i64 0, .int .i64 0, .int .i64 0]) (k := 0) (cs' := [.int .i64 0, .int .i64 0, .int .i64 0, .int .i64 0, .int .i64 0]) hS5 k_sz_44_5 rfl rfl rfl rfl rfl rfl rfl (Nat.le_of_ble_eq_true rfl) rfl rfl) ?_
    rintro _ w_5 ⟨rfl, hS6⟩
    have hS6 : ST w0 [] _ [⟨some ⟨b, 0, none⟩, 26, [.int .i64 m.Rows, .int .i64 m.Cols, .slice B m.Cells.length c], 3⟩, ⟨some ⟨b1, 0, none⟩, 44, [.int .i64 0, .int .i64 0, .int .i64 0, .int .i64 0, .int .i64 0], 5⟩, ⟨some ⟨b2, 0, none⟩, 44, [.int .i64 0, .int .i64 0, .int .i64 0, .int .i64 0, .int .i64 0], 5⟩] [⟨B, (m.Cells.flatMap enc_Dyadic)⟩] := hS6
    refine sq 5 rfl rfl (Y_assign (v := .bool true) rfl rfl) ?_
    refine rw_nil ?_
    refine cw_seq ?_
    refine cw_seq ?_
    refine cw_region ?_
    refine sq 6 rfl rfl (Y_assign (v := .int .i64 0) rfl rfl) ?_
    refine rw_nil ?_
    obtain ⟨z, hz, hF3⟩ := bind_inv hF2
    refine cw_block ?_
    refine cw_loop (fun k f w => ∃ (A : Int) (B1 : Int) (C : Int) (D : Int) (Exp : Int) (ok : Bool) (i : Int), FF f [(1, pt (some ⟨b, 0, none⟩) 0), (2, pt (some ⟨b1, 0, none⟩) 0), (4, pt (some ⟨b2, 0, none⟩) 0), (5, .bool ok), (6, .int .i64 i)] ∧ ST w0 [] w [⟨some ⟨b, 0, none⟩, 26, [.int .i64 m.Rows, .int .i64 m.Cols, .slice B m.Cells.length c], 3⟩, ⟨some ⟨b1, 0, none⟩, 44, [.int .i64 0, .int .i64 0, .int .i64 0, .int .i64 0, .int .i64 0], 5⟩, ⟨some ⟨b2, 0, none⟩, 44, [.int .i64 A, .int .i64 B1, .int .i64 C, .int .i64 D, .int .i64 Exp], 5⟩] [⟨B, (m.Cells.flatMap enc_Dyadic)⟩] ∧ whX (F_impl_TraceOf_l1 m) k (A, B1, C, D, Exp, ok, i) = some z) fuel ⟨0, 0, 0, 0, 0, true, 0, (FF.cons rfl (FF.cons rfl (FF.cons rfl (FF.cons rfl (FF.cons rfl FF.nil))))), (hS6.sel [0, 1, 2] rfl rfl), hz⟩ ?_
    rintro k_ f w ⟨A, B1, C, D, Exp, ok, i, hf, hS7, hL⟩
    obtain ⟨k_1, y, rfl, hb1, hL1⟩ := whX_go hL
    unfold F_impl_TraceOf_l1 at hb1
    refine cw_seq ?_
    refine cw_seq ?_
    refine cw_region ?_
    refine sq 19 rfl rfl (Y_move (v := .int .i64 i) rfl (hf.get 6 4 rfl)) ?_
    refine sq 20 rfl rfl (Y_fieldAddr (B := some ⟨b, 0, none⟩) (i := 0) (s := 0) k_fd_26_0_0_3 k_sz_3_1 rfl (hf.get 1 0 rfl)) ?_
    refine sq 21 rfl rfl (Y_load1 (B := some ⟨b, 0, none⟩) (i := 0) (cs := [.int .i64 m.Rows, .int .i64 m.Cols, .slice B m.Cells.length c]) (v := .int .i64 m.Rows) k_sc_3 rfl rfl (hS7.cf (i := 0) rfl) rfl) ?_
    refine sq 22 rfl rfl (Y_lt (k := .i64) (a := i) (b := m.Rows) rfl rfl rfl) ?_
    refine sq 23 rfl rfl (Y_move (v := .bool (decide (i < m.Rows))) rfl rfl) ?_
    refine sgq 24 (B := (decide (i < m.Rows))) (v := .bool ok) rfl rfl (wt_t (gd_of (t := 23) (by kernel_rfl) rfl)) (fun hg5 => (Y_move (v := .bool ok) rfl (hf.get 5 3 rfl))) ?_
    refine sq 25 rfl rfl (Y_and (b := (decide (i < m.Rows))) (z := ok) rfl rfl rfl rfl) ?_
    refine rw_nil ?_
    refine cw_cond (b := ((decide (i < m.Rows)) && ok)) rfl (fun hb2 => ?_) (fun hb2 => ?_)
    · skip
      have hF4 := ct hb1 hb2
      refine cw_skip ?_
      refine cw_seq ?_
      refine cw_block ?_
      obtain ⟨r_3, hc1, hF4⟩ := bind_inv hF4
      obtain ⟨⟨r_4, r_5⟩, hc2, hF4⟩ := bind_inv hF4
      refine cw_mid (fun f w => FF f [(1, pt (some ⟨b, 0, none⟩) 0), (2, pt (some ⟨b1, 0, none⟩) 0), (4, pt (some ⟨b2, 0, none⟩) 0), (5, .bool r_5), (6, .int .i64 i)] ∧ ST w0 [] w [⟨some ⟨b, 0, none⟩, 26, [.int .i64 m.Rows, .int .i64 m.Cols, .slice B m.Cells.length c], 3⟩, ⟨some ⟨b1, 0, none⟩, 44, [.int .i64 0, .int .i64 0, .int .i64 0, .int .i64 0, .int .i64 0], 5⟩, ⟨some ⟨b2, 0, none⟩, 44, [.int .i64 r_4.Num.A, .int .i64 r_4.Num.B, .int .i64 r_4.Num.C, .int .i64 r_4.Num.D, .int .i64 r_4.Exp], 5⟩] [⟨B, (m.Cells.flatMap enc_Dyadic)⟩]) ?_ ?_
      · skip
        refine ra_start (ST.sel hS7 [0, 1] rfl rfl).fn (by kernel_rfl) ?_
        have hS11 := hS7.drew
        refine ra_q 1 30 (v := .agg #[.int .i64 m.Rows, .int .i64 m.Cols, .slice B m.Cells.length c]) rfl rfl rfl (by kernel_rfl) (by kernel_rfl) (by kernel_rfl) (ST.sel hS11 [0, 1] rfl rfl) (fun w' hw' => (Y_loadA (B := some ⟨b, 0, none⟩) (i := 0) (cs := [.int .i64 m.Rows, .int .i64 m.Cols, .slice B m.Cells.length c]) (vs := [.int .i64 m.Rows, .int .i64 m.Cols, .slice B m.Cells.length c]) k_ag_26 k_sz_26_3 rfl (hf.get 1 0 rfl) (ST.cf hw' (i := 0) rfl) rfl rfl)) ?_
        refine ra_q 2 31 (v := .int .i64 i) rfl rfl rfl (by kernel_rfl) (by kernel_rfl) (by kernel_rfl) (ST.sel hS11 [0, 1] rfl rfl) (fun w' hw' => (Y_move (v := .int .i64 i) rfl (hf.get 6 4 rfl))) ?_
        refine ra_q 3 32 (v := .int .i64 i) rfl rfl rfl (by kernel_rfl) (by kernel_rfl) (by kernel_rfl) (ST.sel hS11 [0, 1] rfl rfl) (fun w' hw' => (Y_move (v := .int .i64 i) rfl (hf.get 6 4 rfl))) ?_
        refine ra_all (rs := [0, 4]) (by kernel_rfl) rfl ?_
        refine ra_y 29 (i := 0) (v := .agg #[.int .i64 A, .int .i64 B1, .int .i64 C, .int .i64 D, .int .i64 Exp]) rfl rfl rfl (Y_loadA (B := some ⟨b2, 0, none⟩) (i := 0) (cs := [.int .i64 A, .int .i64 B1, .int .i64 C, .int .i64 D, .int .i64 Exp]) (vs := [.int .i64 A, .int .i64 B1, .int .i64 C, .int .i64 D, .int .i64 Exp]) k_ag_44 k_sz_44_5 rfl (hf.get 4 2 rfl) (hS11.cf (i := 2) rfl) rfl rfl) (ST.sel hS11 [0, 1] rfl rfl) ?_ ?_
        · skip
          refine ra_all (rs := [4]) (by kernel_rfl) rfl ?_
          refine ra_c 33 (i := 4) rfl rfl rfl (Yc_func (g := 59) (vs := [.agg #[.int .i64 m.Rows, .int .i64 m.Cols, .slice B m.Cells.length c], .int .i64 i, .int .i64 i]) k_call_59 rfl (mc rfl (mc rfl (mc rfl mn))) (c_impl_Matrix_at m i i B c m.Cells.length _ rfl (hS11.inn0 [(true, 0)] rfl) hc1)) ?_ ?_
          · rintro _ w_6 ⟨rfl, hd1⟩
            have hS12 := hS11.out00 hd1
            have hS12 : ST w0 [] _ [⟨some ⟨b, 0, none⟩, 26, [.int .i64 m.Rows, .int .i64 m.Cols, .slice B m.Cells.length c], 3⟩, ⟨some ⟨b1, 0, none⟩, 44, [.int .i64 0, .int .i64 0, .int .i64 0, .int .i64 0, .int .i64 0], 5⟩, ⟨some ⟨b2, 0, none⟩, 44, [.int .i64 A, .int .i64 B1, .int .i64 C, .int .i64 D, .int .i64 Exp], 5⟩] [⟨B, (m.Cells.flatMap enc_Dyadic)⟩] := hS12
            refine ⟨(ST.sel hS12 [0, 1] rfl rfl), ?_⟩
            refine ra_all (rs := [5]) (by kernel_rfl) rfl ?_
            refine ra_c 34 (i := 5) rfl rfl rfl (Yc_func (g := 60) (vs := [.agg #[.int .i64 A, .int .i64 B1, .int .i64 C, .int .i64 D, .int .i64 Exp], .agg #[.int .i64 r_3.Num.A, .int .i64 r_3.Num.B, .int .i64 r_3.Num.C, .int .i64 r_3.Num.D, .int .i64 r_3.Exp]]) k_call_60 rfl (mc rfl (mc rfl mn)) (c_impl_AddDyadic (TDyadic.mk (TRing.mk A B1 C D) Exp) r_3 _  (hS12.inn0 [] rfl) hc2)) ?_ ?_
            · rintro _ w_7 ⟨rfl, hd2⟩
              have hS13 := hS12.out00 hd2
              have hS13 : ST w0 [] _ [⟨some ⟨b, 0, none⟩, 26, [.int .i64 m.Rows, .int .i64 m.Cols, .slice B m.Cells.length c], 3⟩, ⟨some ⟨b1, 0, none⟩, 44, [.int .i64 0, .int .i64 0, .int .i64 0, .int .i64 0, .int .i64 0], 5⟩, ⟨some ⟨b2, 0, none⟩, 44, [.int .i64 A, .int .i64 B1, .int .i64 C, .int .i64 D, .int .i64 Exp], 5⟩] [⟨B, (m.Cells.flatMap enc_Dyadic)⟩] := hS13
              refine ⟨(ST.sel hS13 [0, 1] rfl rfl), ?_⟩
              refine ra_q 6 28 (v := .tuple #[.agg #[.int .i64 r_4.Num.A, .int .i64 r_4.Num.B, .int .i64 r_4.Num.C, .int .i64 r_4.Num.D, .int .i64 r_4.Exp], .bool r_5]) rfl rfl rfl (by kernel_rfl) (by kernel_rfl) (by kernel_rfl) (ST.sel hS13 [0, 1] rfl rfl) (fun w' hw' => (Y_move (v := .tuple #[.agg #[.int .i64 r_4.Num.A, .int .i64 r_4.Num.B, .int .i64 r_4.Num.C, .int .i64 r_4.Num.D, .int .i64 r_4.Exp], .bool r_5]) rfl rfl)) ?_
              refine ra_q 7 35 (v := .agg #[.int .i64 r_4.Num.A, .int .i64 r_4.Num.B, .int .i64 r_4.Num.C, .int .i64 r_4.Num.D, .int .i64 r_4.Exp]) rfl rfl rfl (by kernel_rfl) (by kernel_rfl) (by kernel_rfl) (ST.sel hS13 [0, 1] rfl rfl) (fun w' hw' => (Y_extract (v := .agg #[.int .i64 r_4.Num.A, .int .i64 r_4.Num.B, .int .i64 r_4.Num.C, .int .i64 r_4.Num.D, .int .i64 r_4.Exp]) rfl rfl rfl)) ?_
              refine ra_q 8 36 (v := .bool r_5) rfl rfl rfl (by kernel_rfl) (by kernel_rfl) (by kernel_rfl) (ST.sel hS13 [0, 1] rfl rfl) (fun w' hw' => (Y_extract (v := .bool r_5) rfl rfl rfl)) ?_
              refine ra_all (rs := [9]) (by kernel_rfl) rfl ?_
              refine ra_s0 (i := 9) rfl rfl rfl (Ys_store (i := 2) (s := 5) (B := some ⟨b2, 0, none⟩) (T' := 44) (v := .agg #[.int .i64 r_4.Num.A, .int .i64 r_4.Num.B, .int .i64 r_4.Num.C, .int .i64 r_4.Num.D, .int .i64 r_4.Exp]) (vs := [.int .i64 r_4.Num.A, .int .i64 r_4.Num.B, .int .i64 r_4.Num.C, .int .i64 r_4.Num.D, .int .i64 r_4.Exp]) (k := 0) (cs' := [.int .i64 r_4.Num.A, .int .i64 r_4.Num.B, .int .i64 r_4.Num.C, .int .i64 r_4.Num.D, .int .i64 r_4.Exp]) hS13 k_sz_44_5 rfl (hf.get 4 2 rfl) rfl rfl rfl rfl rfl (Nat.le_of_ble_eq_true rfl) rfl rfl) ?_ ?_
              · rintro _ w_8 ⟨rfl, hS14⟩
                have hS14 : ST w0 [] _ [⟨some ⟨b, 0, none⟩, 26, [.int .i64 m.Rows, .int .i64 m.Cols, .slice B m.Cells.length c], 3⟩, ⟨some ⟨b1, 0, none⟩, 44, [.int .i64 0, .int .i64 0, .int .i64 0, .int .i64 0, .int .i64 0], 5⟩, ⟨some ⟨b2, 0, none⟩, 44, [.int .i64 r_4.Num.A, .int .i64 r_4.Num.B, .int .i64 r_4.Num.C, .int .i64 r_4.Num.D, .int .i64 r_4.Exp], 5⟩] [⟨B, (m.Cells.flatMap enc_Dyadic)⟩] := hS14
                refine ⟨(ST.sel hS14 [0, 1] rfl rfl), ?_⟩
                refine ra_q 10 5 (v := .bool r_5) rfl rfl rfl (by kernel_rfl) (by kernel_rfl) (by kernel_rfl) (ST.sel hS14 [0, 1] rfl rfl) (fun w' hw' => (Y_assign (v := .bool r_5) rfl rfl)) ?_
                refine ra_done (by kernel_rfl) ?_
                exact ⟨(FF.cons (hf.get 1 0 rfl) (FF.cons (hf.get 2 1 rfl) (FF.cons (hf.get 4 2 rfl) (FF.cons rfl (FF.cons (hf.get 6 4 rfl) FF.nil))))), (hS14.sel [0, 1, 2] rfl rfl)⟩
              exact allR_nil
            exact allR_nil
          exact allR_nil
        refine ra_c 33 (i := 4) rfl rfl rfl (Yc_func (g := 59) (vs := [.agg #[.int .i64 m.Rows, .int .i64 m.Cols, .slice B m.Cells.length c], .int .i64 i, .int .i64 i]) k_call_59 rfl (mc rfl (mc rfl (mc rfl mn))) (c_impl_Matrix_at m i i B c m.Cells.length _ rfl (hS11.inn0 [(true, 0)] rfl) hc1)) ?_ ?_
        · rintro _ w_9 ⟨rfl, hd3⟩
          have hS15 := hS11.out00 hd3
          have hS15 : ST w0 [] _ [⟨some ⟨b, 0, none⟩, 26, [.int .i64 m.Rows, .int .i64 m.Cols, .slice B m.Cells.length c], 3⟩, ⟨some ⟨b1, 0, none⟩, 44, [.int .i64 0, .int .i64 0, .int .i64 0, .int .i64 0, .int .i64 0], 5⟩, ⟨some ⟨b2, 0, none⟩, 44, [.int .i64 A, .int .i64 B1, .int .i64 C, .int .i64 D, .int .i64 Exp], 5⟩] [⟨B, (m.Cells.flatMap enc_Dyadic)⟩] := hS15
          refine ⟨(ST.sel hS15 [0, 1] rfl rfl), ?_⟩
          refine ra_all (rs := [0]) (by kernel_rfl) rfl ?_
          refine ra_y 29 (i := 0) (v := .agg #[.int .i64 A, .int .i64 B1, .int .i64 C, .int .i64 D, .int .i64 Exp]) rfl rfl rfl (Y_loadA (B := some ⟨b2, 0, none⟩) (i := 0) (cs := [.int .i64 A, .int .i64 B1, .int .i64 C, .int .i64 D, .int .i64 Exp]) (vs := [.int .i64 A, .int .i64 B1, .int .i64 C, .int .i64 D, .int .i64 Exp]) k_ag_44 k_sz_44_5 rfl (hf.get 4 2 rfl) (hS15.cf (i := 2) rfl) rfl rfl) (ST.sel hS15 [0, 1] rfl rfl) ?_ ?_
          · skip
            refine ra_all (rs := [5]) (by kernel_rfl) rfl ?_
            refine ra_c 34 (i := 5) rfl rfl rfl (Yc_func (g := 60) (vs := [.agg #[.int .i64 A, .int .i64 B1, .int .i64 C, .int .i64 D, .int .i64 Exp], .agg #[.int .i64 r_3.Num.A, .int .i64 r_3.Num.B, .int .i64 r_3.Num.C, .int .i64 r_3.Num.D, .int .i64 r_3.Exp]]) k_call_60 rfl (mc rfl (mc rfl mn)) (c_impl_AddDyadic (TDyadic.mk (TRing.mk A B1 C D) Exp) r_3 _  (hS15.inn0 [] rfl) hc2)) ?_ ?_
            · rintro _ w_10 ⟨rfl, hd4⟩
              have hS16 := hS15.out00 hd4
              have hS16 : ST w0 [] _ [⟨some ⟨b, 0, none⟩, 26, [.int .i64 m.Rows, .int .i64 m.Cols, .slice B m.Cells.length c], 3⟩, ⟨some ⟨b1, 0, none⟩, 44, [.int .i64 0, .int .i64 0, .int .i64 0, .int .i64 0, .int .i64 0], 5⟩, ⟨some ⟨b2, 0, none⟩, 44, [.int .i64 A, .int .i64 B1, .int .i64 C, .int .i64 D, .int .i64 Exp], 5⟩] [⟨B, (m.Cells.flatMap enc_Dyadic)⟩] := hS16
              refine ⟨(ST.sel hS16 [0, 1] rfl rfl), ?_⟩
              refine ra_q 6 28 (v := .tuple #[.agg #[.int .i64 r_4.Num.A, .int .i64 r_4.Num.B, .int .i64 r_4.Num.C, .int .i64 r_4.Num.D, .int .i64 r_4.Exp], .bool r_5]) rfl rfl rfl (by kernel_rfl) (by kernel_rfl) (by kernel_rfl) (ST.sel hS16 [0, 1] rfl rfl) (fun w' hw' => (Y_move (v := .tuple #[.agg #[.int .i64 r_4.Num.A, .int .i64 r_4.Num.B, .int .i64 r_4.Num.C, .int .i64 r_4.Num.D, .int .i64 r_4.Exp], .bool r_5]) rfl rfl)) ?_
              refine ra_q 7 35 (v := .agg #[.int .i64 r_4.Num.A, .int .i64 r_4.Num.B, .int .i64 r_4.Num.C, .int .i64 r_4.Num.D, .int .i64 r_4.Exp]) rfl rfl rfl (by kernel_rfl) (by kernel_rfl) (by kernel_rfl) (ST.sel hS16 [0, 1] rfl rfl) (fun w' hw' => (Y_extract (v := .agg #[.int .i64 r_4.Num.A, .int .i64 r_4.Num.B, .int .i64 r_4.Num.C, .int .i64 r_4.Num.D, .int .i64 r_4.Exp]) rfl rfl rfl)) ?_
              refine ra_q 8 36 (v := .bool r_5) rfl rfl rfl (by kernel_rfl) (by kernel_rfl) (by kernel_rfl) (ST.sel hS16 [0, 1] rfl rfl) (fun w' hw' => (Y_extract (v := .bool r_5) rfl rfl rfl)) ?_
              refine ra_all (rs := [9]) (by kernel_rfl) rfl ?_
              refine ra_s0 (i := 9) rfl rfl rfl (Ys_store (i := 2) (s := 5) (B := some ⟨b2, 0, none⟩) (T' := 44) (v := .agg #[.int .i64 r_4.Num.A, .int .i64 r_4.Num.B, .int .i64 r_4.Num.C, .int .i64 r_4.Num.D, .int .i64 r_4.Exp]) (vs := [.int .i64 r_4.Num.A, .int .i64 r_4.Num.B, .int .i64 r_4.Num.C, .int .i64 r_4.Num.D, .int .i64 r_4.Exp]) (k := 0) (cs' := [.int .i64 r_4.Num.A, .int .i64 r_4.Num.B, .int .i64 r_4.Num.C, .int .i64 r_4.Num.D, .int .i64 r_4.Exp]) hS16 k_sz_44_5 rfl (hf.get 4 2 rfl) rfl rfl rfl rfl rfl (Nat.le_of_ble_eq_true rfl) rfl rfl) ?_ ?_
              · rintro _ w_11 ⟨rfl, hS17⟩
                have hS17 : ST w0 [] _ [⟨some ⟨b, 0, none⟩, 26, [.int .i64 m.Rows, .int .i64 m.Cols, .slice B m.Cells.length c], 3⟩, ⟨some ⟨b1, 0, none⟩, 44, [.int .i64 0, .int .i64 0, .int .i64 0, .int .i64 0, .int .i64 0], 5⟩, ⟨some ⟨b2, 0, none⟩, 44, [.int .i64 r_4.Num.A, .int .i64 r_4.Num.B, .int .i64 r_4.Num.C, .int .i64 r_4.Num.D, .int .i64 r_4.Exp], 5⟩] [⟨B, (m.Cells.flatMap enc_Dyadic)⟩] := hS17
                refine ⟨(ST.sel hS17 [0, 1] rfl rfl), ?_⟩
                refine ra_q 10 5 (v := .bool r_5) rfl rfl rfl (by kernel_rfl) (by kernel_rfl) (by kernel_rfl) (ST.sel hS17 [0, 1] rfl rfl) (fun w' hw' => (Y_assign (v := .bool r_5) rfl rfl)) ?_
                refine ra_done (by kernel_rfl) ?_
                exact ⟨(FF.cons (hf.get 1 0 rfl) (FF.cons (hf.get 2 1 rfl) (FF.cons (hf.get 4 2 rfl) (FF.cons rfl (FF.cons (hf.get 6 4 rfl) FF.nil))))), (hS17.sel [0, 1, 2] rfl rfl)⟩
              exact allR_nil
            exact allR_nil
          exact allR_nil
        exact allR_nil
      rintro f w ⟨hf1, hS10⟩
      refine cw_region ?_
      refine sq 26 rfl rfl (Y_move (v := .int .i64 i) rfl (hf1.get 6 4 rfl)) ?_
      refine sq 27 rfl rfl (Y_add (k := .i64) (a := i) (b := 1) rfl rfl rfl) ?_
      refine sq 6 rfl rfl (Y_assign (v := .int .i64 (IntKind.i64.wrap (i + 1))) rfl rfl) ?_
      refine rw_nil ?_
      obtain rfl := some_inj hF4
      exact ⟨k_1, Nat.lt_succ_self _, r_4.Num.A, r_4.Num.B, r_4.Num.C, r_4.Num.D, r_4.Exp, r_5, (IntKind.i64.wrap (i + 1)), (FF.cons (hf1.get 1 0 rfl) (FF.cons (hf1.get 2 1 rfl) (FF.cons (hf1.get 4 2 rfl) (FF.cons (hf1.get 5 3 rfl) (FF.cons rfl FF.nil))))), (hS10.sel [0, 1, 2] rfl rfl), hL1⟩
    · skip
      have hF5 := cf' hb1 hb2
      refine cw_exit rfl ?_
      obtain rfl := some_inj hF5
      obtain rfl := some_inj hL1
      refine cw_seq ?_
      refine cw_region ?_
      refine sq 37 rfl rfl (Y_loadA (B := some ⟨b2, 0, none⟩) (i := 0) (cs := [.int .i64 A, .int .i64 B1, .int .i64 C, .int .i64 D, .int .i64 Exp]) (vs := [.int .i64 A, .int .i64 B1, .int .i64 C, .int .i64 D, .int .i64 Exp]) k_ag_44 k_sz_44_5 rfl (hf.get 4 2 rfl) (hS7.cf (i := 2) rfl) rfl rfl) ?_
      refine sq 38 rfl rfl (Y_move (v := .bool ok) rfl (hf.get 5 3 rfl)) ?_
      refine ss0 rfl rfl (Ys_store (i := 1) (s := 5) (B := some ⟨b1, 0, none⟩) (T' := 44) (v := .agg #[.int .i64 A, .int .i64 B1, .int .i64 C, .int .i64 D, .int .i64 Exp]) (vs := [.int .i64 A, .int .i64 B1, .int .i64 C, .int .i64 D, .int .i64 Exp]) (k := 0) (cs' := [.int .i64 A, .int .i64 B1, .int .i64 C, .int .i64 D, .int .i64 Exp]) hS7 k_sz_44_5 rfl (hf.get 2 1 rfl) rfl rfl rfl rfl rfl (Nat.le_of_ble_eq_true rfl) rfl rfl) ?_
      rintro _ w_12 ⟨rfl, hS18⟩
      have hS18 : ST w0 [] _ [⟨some ⟨b, 0, none⟩, 26, [.int .i64 m.Rows, .int .i64 m.Cols, .slice B m.Cells.length c], 3⟩, ⟨some ⟨b1, 0, none⟩, 44, [.int .i64 A, .int .i64 B1, .int .i64 C, .int .i64 D, .int .i64 Exp], 5⟩, ⟨some ⟨b2, 0, none⟩, 44, [.int .i64 A, .int .i64 B1, .int .i64 C, .int .i64 D, .int .i64 Exp], 5⟩] [⟨B, (m.Cells.flatMap enc_Dyadic)⟩] := hS18
      refine sq 3 rfl rfl (Y_assign (v := .bool ok) rfl rfl) ?_
      refine rw_nil ?_
      refine cw_ret ?_
      obtain ⟨rfl, rfl⟩ := pr2 (some_inj hF3)
      exact ret2 Try.results20 (v1 := .agg #[.int .i64 A, .int .i64 B1, .int .i64 C, .int .i64 D, .int .i64 Exp]) (resAt_cellA (B := some ⟨b1, 0, none⟩) (i := 0) (cs := [.int .i64 A, .int .i64 B1, .int .i64 C, .int .i64 D, .int .i64 Exp]) (vs := [.int .i64 A, .int .i64 B1, .int .i64 C, .int .i64 D, .int .i64 Exp]) (hf.get 2 1 rfl) k_ag_44 k_sz_44_5 (hS18.cf (i := 1) rfl) rfl rfl) (v2 := .bool ok) (resAt_tmp rfl) ⟨rfl, (ST.subR (R' := []) (hS18.sel [] rfl rfl) (fun _ h => by cases h))⟩

theorem c_spec_DrawKron (code : List Int) (B : Option Addr) (c n : Nat) (w0 : World) (hn : code.length = n) (hS : ST w0 [] w0 [] [⟨B, (code.flatMap enc_u8)⟩]) {r_ : TMatrix} {r_1 : TMatrix} (hF : F_spec_DrawKron code = some (r_, r_1)) :
    CV Try.prog 21 #[.slice B n c] w0 (fun v w' => ∃ (B1 : Option Addr) (c1 : Nat) (B2 : Option Addr) (c2 : Nat), v = .tuple #[.agg #[.int .i64 r_.Rows, .int .i64 r_.Cols, .slice B1 r_.Cells.length c1], .agg #[.int .i64 r_1.Rows, .int .i64 r_1.Cols, .slice B2 r_1.Cells.length c2]] ∧ r_.Cells.length ≤ c1 ∧ r_1.Cells.length ≤ c2 ∧ Org w0 [] [⟨B, (code.flatMap enc_u8)⟩] [⟨B1, (r_.Cells.flatMap enc_Dyadic)⟩, ⟨B2, (r_1.Cells.flatMap enc_Dyadic)⟩] ∧ ST w0 [] w' [] [⟨B1, (r_.Cells.flatMap enc_Dyadic)⟩, ⟨B2, (r_1.Cells.flatMap enc_Dyadic)⟩]) := by
  subst hn
  unfold F_spec_DrawKron at hF
  refine cv_of_cw 12 Try.func21 rfl Try.ntmps21 rfl ?_
  refine cw_seq ?_
  refine cw_region ?_
  refine ss 2 rfl rfl (Ys_alloc (T := 26) (cs := [.int .i64 0, .int .i64 0, .slice none 0 0]) (m := 3) hS k_zero_26 rfl rfl rfl) ?_
  rintro _ w_ ⟨b, rfl, hS1⟩
  refine ss 3 rfl rfl (Ys_alloc (T := 26) (cs := [.int .i64 0, .int .i64 0, .slice none 0 0]) (m := 3) hS1 k_zero_26 rfl rfl rfl) ?_
  rintro _ w_1 ⟨b1, rfl, hS2⟩
  have hS2 : ST w0 [] _ [⟨some ⟨b, 0, none⟩, 26, [.int .i64 0, .int .i64 0, .slice none 0 0], 3⟩, ⟨some ⟨b1, 0, none⟩, 26, [.int .i64 0, .int .i64 0, .slice none 0 0], 3⟩] [⟨B, (code.flatMap enc_u8)⟩] := hS2
  refine rw_nil ?_
  refine cw_seq ?_
  refine cw_region ?_
  refine sq 5 rfl rfl (Y_move (v := .slice B code.length c) rfl rfl) ?_
  refine sq 6 rfl rfl (Y_buildS (zs := [.slice none 0 0, .int .i64 0, .int .u64 0]) (vs := [(0, .slice B code.length c)]) (cs := [.slice B code.length c, .int .i64 0, .int .u64 0]) k_pl_87 k_zero_87 rfl (mpc rfl mpn) rfl) ?_
  refine ss 7 rfl rfl (Ys_box (T := 87) (v := .agg #[.slice B code.length c, .int .i64 0, .int .u64 0]) (cs := [.slice B code.length c, .int .i64 0, .int .u64 0]) (m := 3) hS2 rfl rfl rfl rfl) ?_
  rintro _ w_2 ⟨b2, rfl, hS3⟩
  have hS3 : ST w0 [] _ [⟨some ⟨b, 0, none⟩, 26, [.int .i64 0, .int .i64 0, .slice none 0 0], 3⟩, ⟨some ⟨b1, 0, none⟩, 26, [.int .i64 0, .int .i64 0, .slice none 0 0], 3⟩, ⟨some ⟨b2, 0, none⟩, 87, [.slice B code.length c, .int .i64 0, .int .u64 0], 3⟩] [⟨B, (code.flatMap enc_u8)⟩] := hS3
  refine sq 4 rfl rfl (Y_assign (v := pt (some ⟨b2, 0, none⟩) 0) rfl rfl) ?_
  refine rw_nil ?_
  refine cw_seq ?_
  refine cw_region ?_
  refine sq 8 rfl rfl (Y_move (v := pt (some ⟨b2, 0, none⟩) 0) rfl rfl) ?_
  obtain ⟨⟨r_2, m⟩, hc, hF⟩ := bind_inv hF
  refine sc 9 rfl rfl (Yc_func (g := 56) (vs := [pt (some ⟨b2, 0, none⟩) 0]) k_call_56 rfl (mc rfl mn) (c_spec_l1Cur_anyMatrix (Tl1Cur.mk code 0 0) (some ⟨b2, 0, none⟩) B c code.length _ rfl (hS3.inn [false, false, true] rfl [(true, 0)] rfl) hc)) ?_
  rintro _ w_3 ⟨B3, c3, rfl, hq, ho, hd⟩
  have hS4 := ST.outR hS3 [false, false, true] rfl hd ho (subc (mem_at (i := 0) rfl) (fun _ h => by cases h))
  have ho1 : Org w0 [] [⟨B, (code.flatMap enc_u8)⟩] [⟨B3, (r_2.Cells.flatMap enc_Dyadic)⟩] := org_trans hS3 (msk_mem (mask := [false, false, true]) rfl) ho (org_cons (org_mem (i := 0) rfl) org_nil)
  have hS5 : ST w0 [] _ [⟨some ⟨b, 0, none⟩, 26, [.int .i64 0, .int .i64 0, .slice none 0 0], 3⟩, ⟨some ⟨b1, 0, none⟩, 26, [.int .i64 0, .int .i64 0, .slice none 0 0], 3⟩, ⟨some ⟨b2, 0, none⟩, 87, [.slice B code.length c, .int .i64 m.at_, .int .u64 m.seed], 3⟩] [⟨B3, (r_2.Cells.flatMap enc_Dyadic)⟩, ⟨B, (code.flatMap enc_u8)⟩] := hS4
  have hS5 : ST w0 [] _ [⟨some ⟨b, 0, none⟩, 26, [.int .i64 0, .int .i64 0, .slice none 0 0], 3⟩, ⟨some ⟨b1, 0, none⟩, 26, [.int .i64 0, .int .i64 0, .slice none 0 0], 3⟩, ⟨some ⟨b2, 0, none⟩, 87, [.slice B code.length c, .int .i64 m.at_, .int .u64 m.seed], 3⟩] [⟨B3, (r_2.Cells.flatMap enc_Dyadic)⟩, ⟨B, (code.flatMap enc_u8)⟩] := hS5
  refine sq 10 rfl rfl (Y_move (v := pt (some ⟨b2, 0, none⟩) 0) rfl rfl) ?_
  obtain ⟨⟨r_3, m1⟩, hc1, hF⟩ := bind_inv hF
  refine sc 11 rfl rfl (Yc_func (g := 56) (vs := [pt (some ⟨b2, 0, none⟩) 0]) k_call_56 rfl (mc rfl mn) (c_spec_l1Cur_anyMatrix (Tl1Cur.mk code m.at_ m.seed) (some ⟨b2, 0, none⟩) B c code.length _ rfl (hS5.inn [false, false, true] rfl [(true, 1)] rfl) hc1)) ?_
  rintro _ w_4 ⟨B4, c4, rfl, hq1, ho2, hd1⟩
  have hS6 := ST.outR hS5 [false, false, true] rfl hd1 ho2 (subc (mem_at (i := 1) rfl) (fun _ h => by cases h))
  have ho3 : Org w0 [] [⟨B, (code.flatMap enc_u8)⟩] [⟨B4, (r_3.Cells.flatMap enc_Dyadic)⟩] := org_trans hS5 (msk_mem (mask := [false, false, true]) rfl) ho2 (org_cons (org_mem (i := 0) rfl) org_nil)
  have hS7 : ST w0 [] _ [⟨some ⟨b, 0, none⟩, 26, [.int .i64 0, .int .i64 0, .slice none 0 0], 3⟩, ⟨some ⟨b1, 0, none⟩, 26, [.int .i64 0, .int .i64 0, .slice none 0 0], 3⟩, ⟨some ⟨b2, 0, none⟩, 87, [.slice B code.length c, .int .i64 m1.at_, .int .u64 m1.seed], 3⟩] [⟨B4, (r_3.Cells.flatMap enc_Dyadic)⟩, ⟨B3, (r_2.Cells.flatMap enc_Dyadic)⟩, ⟨B, (code.flatMap enc_u8)⟩] := hS6
  have hS7 : ST w0 [] _ [⟨some ⟨b, 0, none⟩, 26, [.int .i64 0, .int .i64 0, .slice none 0 0], 3⟩, ⟨some ⟨b1, 0, none⟩, 26, [.int .i64 0, .int .i64 0, .slice none 0 0], 3⟩, ⟨some ⟨b2, 0, none⟩, 87, [.slice B code.length c, .int .i64 m1.at_, .int .u64 m1.seed], 3⟩] [⟨B4, (r_3.Cells.flatMap enc_Dyadic)⟩, ⟨B3, (r_2.Cells.flatMap enc_Dyadic)⟩, ⟨B, (code.flatMap enc_u8)⟩] := hS7
  refine ss0 rfl rfl (Ys_store (i := 0) (s := 3) (B := some ⟨b, 0, none⟩) (T' := 26) (v := .agg #[.int .i64 r_2.Rows, .int .i64 r_2.Cols, .slice B3 r_2.Cells.length c3]) (vs := [.int .i64 r_2.Rows, .int .i64 r_2.Cols, .slice B3 r_2.Cells.length c3]) (k := 0) (cs' := [.int .i64 r_2.Rows, .int .i64 r_2.Cols, .slice B3 r_2.Cells.length c3]) hS7 k_sz_26_3 rfl rfl rfl rfl rfl rfl rfl (Nat.le_of_ble_eq_true rfl) rfl rfl) ?_
  rintro _ w_5 ⟨rfl, hS8⟩
  have hS8 : ST w0 [] _ [⟨some ⟨b, 0, none⟩, 26, [.int .i64 r_2.Rows, .int .i64 r_2.Cols, .slice B3 r_2.Cells.length c3], 3⟩, ⟨some ⟨b1, 0, none⟩, 26, [.int .i64 0, .int .i64 0, .slice none 0 0], 3⟩, ⟨some ⟨b2, 0, none⟩, 87, [.slice B code.length c, .int .i64 m1.at_, .int .u64 m1.seed], 3⟩] [⟨B4, (r_3.Cells.flatMap enc_Dyadic)⟩, ⟨B3, (r_2.Cells.flatMap enc_Dyadic)⟩, ⟨B, (code.flatMap enc_u8)⟩] := hS8
  refine ss0 rfl rfl (Ys_store (i := 1) (s := 3) (B := some ⟨b1, 0, none⟩) (T' := 26) (v := .agg #[.int .i64 r_3.Rows, .int .i64 r_3.Cols, .slice B4 r_3.Cells.length c4]) (vs := [.int .i64 r_3.Rows, .int .i64 r_3.Cols, .slice B4 r_3.Cells.length c4]) (k := 0) (cs' := [.int .i64 r_3.Rows, .int .i64 r_3.Cols, .slice B4 r_3.Cells.length c4]) hS8 k_sz_26_3 rfl rfl rfl rfl rfl rfl rfl (Nat.le_of_ble_eq_true rfl) rfl rfl) ?_
  rintro _ w_6 ⟨rfl, hS9⟩
  have hS9 : ST w0 [] _ [⟨some ⟨b, 0, none⟩, 26, [.int .i64 r_2.Rows, .int .i64 r_2.Cols, .slice B3 r_2.Cells.length c3], 3⟩, ⟨some ⟨b1, 0, none⟩, 26, [.int .i64 r_3.Rows, .int .i64 r_3.Cols, .slice B4 r_3.Cells.length c4], 3⟩, ⟨some ⟨b2, 0, none⟩, 87, [.slice B code.length c, .int .i64 m1.at_, .int .u64 m1.seed], 3⟩] [⟨B4, (r_3.Cells.flatMap enc_Dyadic)⟩, ⟨B3, (r_2.Cells.flatMap enc_Dyadic)⟩, ⟨B, (code.flatMap enc_u8)⟩] := hS9
  refine rw_nil ?_
  refine cw_ret ?_
  obtain ⟨rfl, rfl⟩ := pr2 (some_inj hF)
  exact ret2 Try.results21 (v1 := .agg #[.int .i64 r_2.Rows, .int .i64 r_2.Cols, .slice B3 r_2.Cells.length c3]) (resAt_cellA (B := some ⟨b, 0, none⟩) (i := 0) (cs := [.int .i64 r_2.Rows, .int .i64 r_2.Cols, .slice B3 r_2.Cells.length c3]) (vs := [.int .i64 r_2.Rows, .int .i64 r_2.Cols, .slice B3 r_2.Cells.length c3]) rfl k_ag_26 k_sz_26_3 (hS9.cf (i := 0) rfl) rfl rfl) (v2 := .agg #[.int .i64 r_3.Rows, .int .i64 r_3.Cols, .slice B4 r_3.Cells.length c4]) (resAt_cellA (B := some ⟨b1, 0, none⟩) (i := 0) (cs := [.int .i64 r_3.Rows, .int .i64 r_3.Cols, .slice B4 r_3.Cells.length c4]) (vs := [.int .i64 r_3.Rows, .int .i64 r_3.Cols, .slice B4 r_3.Cells.length c4]) rfl k_ag_26 k_sz_26_3 (hS9.cf (i := 1) rfl) rfl rfl) ⟨B3, c3, B4, c4, rfl, (len_le rfl hq), (len_le rfl hq1), (org_cons (org_sub ho1 (subc (mem_at (i := 0) rfl) (fun _ h => by cases h))) (org_cons (org_sub ho3 (subc (mem_at (i := 0) rfl) (fun _ h => by cases h))) org_nil)), (ST.subR (R' := [⟨B3, (r_2.Cells.flatMap enc_Dyadic)⟩, ⟨B4, (r_3.Cells.flatMap enc_Dyadic)⟩]) (hS9.sel [] rfl rfl) (subc (mem_at (i := 1) rfl) (subc (mem_at (i := 0) rfl) (fun _ h => by cases h))))⟩

theorem c_impl_Kron_1 (i : Int) (j : Int) (p : TMatrix) (p1 : TMatrix) (B : Option Addr) (B1 : Option Addr) (c n : Nat) (B2 : Option Addr) (B3 : Option Addr) (c1 n1 : Nat) (w0 : World) (hn : p.Cells.length = n) (hn1 : p1.Cells.length = n1) (hS : ST w0 [] w0 [] [⟨B, [.int .i64 p.Rows, .int .i64 p.Cols, .slice B1 n c]⟩, ⟨B1, (p.Cells.flatMap enc_Dyadic)⟩, ⟨B2, [.int .i64 p1.Rows, .int .i64 p1.Cols, .slice B3 n1 c1]⟩, ⟨B3, (p1.Cells.flatMap enc_Dyadic)⟩]) {r_ : TDyadic} {r_1 : Bool} (hF : F_impl_Kron_1 i j p p1 = some (r_, r_1)) :
    CV Try.prog 68 #[.int .i64 i, .int .i64 j, pt B 0, pt B2 0] w0 (fun v w' => v = .tuple #[.agg #[.int .i64 r_.Num.A, .int .i64 r_.Num.B, .int .i64 r_.Num.C, .int .i64 r_.Num.D, .int .i64 r_.Exp], .bool r_1] ∧ ST w0 [] w' [] []) := by
  subst hn
  subst hn1
  unfold F_impl_Kron_1 at hF
  refine cv_of_cw 31 Try.func68 rfl Try.ntmps68 rfl ?_
  refine cw_seq ?_
  refine cw_region ?_
  refine ss 6 rfl rfl (Ys_alloc (T := 44) (cs := [.int .i64 0, .int .i64 0, .int .i64 0, .int .i64 0, .int .i64 0]) (m := 5) hS k_zero_44 rfl rfl rfl) ?_
  rintro _ w_ ⟨b, rfl, hS1⟩
  refine sq 7 rfl rfl (Y_assign (v := .bool false) rfl rfl) ?_
  refine rw_nil ?_
  refine cw_seq ?_
  obtain ⟨hne, hF⟩ := chk_inv hF
  obtain ⟨hne1, hF⟩ := chk_inv hF
  obtain ⟨r_2, hc, hF⟩ := bind_inv hF
  obtain ⟨hne2, hF⟩ := chk_inv hF
  obtain ⟨hne3, hF⟩ := chk_inv hF
  obtain ⟨r_3, hc1, hF⟩ := bind_inv hF
  obtain ⟨⟨r_4, r_5⟩, hc2, hF⟩ := bind_inv hF
  refine ra_start (ST.sel hS1 [] rfl rfl).fn (by kernel_rfl) ?_
  have hS5 := hS1.drew
  refine ra_q 0 8 (v := .agg #[.int .i64 p.Rows, .int .i64 p.Cols, .slice B1 p.Cells.length c]) rfl rfl rfl (by kernel_rfl) (by kernel_rfl) (by kernel_rfl) (ST.sel hS5 [] rfl rfl) (fun w' hw' => (Y_loadA (B := B) (i := 0) (cs := [.int .i64 p.Rows, .int .i64 p.Cols, .slice B1 p.Cells.length c]) (vs := [.int .i64 p.Rows, .int .i64 p.Cols, .slice B1 p.Cells.length c]) k_ag_26 k_sz_26_3 rfl rfl (ST.rf hw' (i := 0) rfl) rfl rfl)) ?_
  refine ra_q 1 9 (v := .int .i64 i) rfl rfl rfl (by kernel_rfl) (by kernel_rfl) (by kernel_rfl) (ST.sel hS5 [] rfl rfl) (fun w' hw' => (Y_move (v := .int .i64 i) rfl rfl)) ?_
  refine ra_q 2 10 (v := pt B2 0) rfl rfl rfl (by kernel_rfl) (by kernel_rfl) (by kernel_rfl) (ST.sel hS5 [] rfl rfl) (fun w' hw' => (Y_fieldAddr (B := B2) (i := 0) (s := 0) k_fd_26_0_0_3 k_sz_3_1 rfl rfl)) ?_
  refine ra_q 3 11 (v := .int .i64 p1.Rows) rfl rfl rfl (by kernel_rfl) (by kernel_rfl) (by kernel_rfl) (ST.sel hS5 [] rfl rfl) (fun w' hw' => (Y_load1 (B := B2) (i := 0) (cs := [.int .i64 p1.Rows, .int .i64 p1.Cols, .slice B3 p1.Cells.length c1]) (v := .int .i64 p1.Rows) k_sc_3 rfl rfl (ST.rf hw' (i := 2) rfl) rfl)) ?_
  refine ra_q 4 12 (v := .int .i64 (IntKind.i64.wrap (Int.tdiv i p1.Rows))) rfl rfl rfl (by kernel_rfl) (by kernel_rfl) (by kernel_rfl) (ST.sel hS5 [] rfl rfl) (fun w' hw' => (Y_quo (k := .i64) (a := i) (b := p1.Rows) rfl rfl rfl hne)) ?_
  refine ra_q 5 13 (v := .int .i64 j) rfl rfl rfl (by kernel_rfl) (by kernel_rfl) (by kernel_rfl) (ST.sel hS5 [] rfl rfl) (fun w' hw' => (Y_move (v := .int .i64 j) rfl rfl)) ?_
  refine ra_q 6 14 (v := pt B2 1) rfl rfl rfl (by kernel_rfl) (by kernel_rfl) (by kernel_rfl) (ST.sel hS5 [] rfl rfl) (fun w' hw' => (Y_fieldAddr (B := B2) (i := 0) (s := 0) k_fd_26_1_1_3 k_sz_3_1 rfl rfl)) ?_
  refine ra_q 7 15 (v := .int .i64 p1.Cols) rfl rfl rfl (by kernel_rfl) (by kernel_rfl) (by kernel_rfl) (ST.sel hS5 [] rfl rfl) (fun w' hw' => (Y_load1 (B := B2) (i := 1) (cs := [.int .i64 p1.Rows, .int .i64 p1.Cols, .slice B3 p1.Cells.length c1]) (v := .int .i64 p1.Cols) k_sc_3 rfl rfl (ST.rf hw' (i := 2) rfl) rfl)) ?_
  refine ra_q 8 16 (v := .int .i64 (IntKind.i64.wrap (Int.tdiv j p1.Cols))) rfl rfl rfl (by kernel_rfl) (by kernel_rfl) (by kernel_rfl) (ST.sel hS5 [] rfl rfl) (fun w' hw' => (Y_quo (k := .i64) (a := j) (b := p1.Cols) rfl rfl rfl hne1)) ?_
  refine ra_q 10 18 (v := .agg #[.int .i64 p1.Rows, .int .i64 p1.Cols, .slice B3 p1.Cells.length c1]) rfl rfl rfl (by kernel_rfl) (by kernel_rfl) (by kernel_rfl) (ST.sel hS5 [] rfl rfl) (fun w' hw' => (Y_loadA (B := B2) (i := 0) (cs := [.int .i64 p1.Rows, .int .i64 p1.Cols, .slice B3 p1.Cells.length c1]) (vs := [.int .i64 p1.Rows, .int .i64 p1.Cols, .slice B3 p1.Cells.length c1]) k_ag_26 k_sz_26_3 rfl rfl (ST.rf hw' (i := 2) rfl) rfl rfl)) ?_
  refine ra_q 11 19 (v := .int .i64 i) rfl rfl rfl (by kernel_rfl) (by kernel_rfl) (by kernel_rfl) (ST.sel hS5 [] rfl rfl) (fun w' hw' => (Y_move (v := .int .i64 i) rfl rfl)) ?_
  refine ra_q 12 20 (v := pt B2 0) rfl rfl rfl (by kernel_rfl) (by kernel_rfl) (by kernel_rfl) (ST.sel hS5 [] rfl rfl) (fun w' hw' => (Y_fieldAddr (B := B2) (i := 0) (s := 0) k_fd_26_0_0_3 k_sz_3_1 rfl rfl)) ?_
  refine ra_q 13 21 (v := .int .i64 p1.Rows) rfl rfl rfl (by kernel_rfl) (by kernel_rfl) (by kernel_rfl) (ST.sel hS5 [] rfl rfl) (fun w' hw' => (Y_load1 (B := B2) (i := 0) (cs := [.int .i64 p1.Rows, .int .i64 p1.Cols, .slice B3 p1.Cells.length c1]) (v := .int .i64 p1.Rows) k_sc_3 rfl rfl (ST.rf hw' (i := 2) rfl) rfl)) ?_
  refine ra_q 14 22 (v := .int .i64 (Int.tmod i p1.Rows)) rfl rfl rfl (by kernel_rfl) (by kernel_rfl) (by kernel_rfl) (ST.sel hS5 [] rfl rfl) (fun w' hw' => (Y_rem (k := .i64) (a := i) (b := p1.Rows) rfl rfl rfl hne2)) ?_
  refine ra_q 15 23 (v := .int .i64 j) rfl rfl rfl (by kernel_rfl) (by kernel_rfl) (by kernel_rfl) (ST.sel hS5 [] rfl rfl) (fun w' hw' => (Y_move (v := .int .i64 j) rfl rfl)) ?_
  refine ra_q 16 24 (v := pt B2 1) rfl rfl rfl (by kernel_rfl) (by kernel_rfl) (by kernel_rfl) (ST.sel hS5 [] rfl rfl) (fun w' hw' => (Y_fieldAddr (B := B2) (i := 0) (s := 0) k_fd_26_1_1_3 k_sz_3_1 rfl rfl)) ?_
  refine ra_q 17 25 (v := .int .i64 p1.Cols) rfl rfl rfl (by kernel_rfl) (by kernel_rfl) (by kernel_rfl) (ST.sel hS5 [] rfl rfl) (fun w' hw' => (Y_load1 (B := B2) (i := 1) (cs := [.int .i64 p1.Rows, .int .i64 p1.Cols, .slice B3 p1.Cells.length c1]) (v := .int .i64 p1.Cols) k_sc_3 rfl rfl (ST.rf hw' (i := 2) rfl) rfl)) ?_
  refine ra_q 18 26 (v := .int .i64 (Int.tmod j p1.Cols)) rfl rfl rfl (by kernel_rfl) (by kernel_rfl) (by kernel_rfl) (ST.sel hS5 [] rfl rfl) (fun w' hw' => (Y_rem (k := .i64) (a := j) (b := p1.Cols) rfl rfl rfl hne3)) ?_
  refine ra_all (rs := [9]) (by kernel_rfl) rfl ?_
  refine ra_c 17 (i := 9) rfl rfl rfl (Yc_func (g := 59) (vs := [.agg #[.int .i64 p.Rows, .int .i64 p.Cols, .slice B1 p.Cells.length c], .int .i64 (IntKind.i64.wrap (Int.tdiv i p1.Rows)), .int .i64 (IntKind.i64.wrap (Int.tdiv j p1.Cols))]) k_call_59 rfl (mc rfl (mc rfl (mc rfl mn))) (c_impl_Matrix_at p (IntKind.i64.wrap (Int.tdiv i p1.Rows)) (IntKind.i64.wrap (Int.tdiv j p1.Cols)) B1 c p.Cells.length _ rfl (hS5.inn0 [(true, 1)] rfl) hc)) ?_ ?_
  · rintro _ w_1 ⟨rfl, hd⟩
    have hS6 := hS5.out00 hd
    refine ⟨(ST.sel hS6 [] rfl rfl), ?_⟩
    refine ra_all (rs := [19]) (by kernel_rfl) rfl ?_
    refine ra_c 27 (i := 19) rfl rfl rfl (Yc_func (g := 59) (vs := [.agg #[.int .i64 p1.Rows, .int .i64 p1.Cols, .slice B3 p1.Cells.length c1], .int .i64 (Int.tmod i p1.Rows), .int .i64 (Int.tmod j p1.Cols)]) k_call_59 rfl (mc rfl (mc rfl (mc rfl mn))) (c_impl_Matrix_at p1 (Int.tmod i p1.Rows) (Int.tmod j p1.Cols) B3 c1 p1.Cells.length _ rfl (hS6.inn0 [(true, 3)] rfl) hc1)) ?_ ?_
    · rintro _ w_2 ⟨rfl, hd1⟩
      have hS7 := hS6.out00 hd1
      refine ⟨(ST.sel hS7 [] rfl rfl), ?_⟩
      refine ra_all (rs := [20]) (by kernel_rfl) rfl ?_
      refine ra_c 28 (i := 20) rfl rfl rfl (Yc_func (g := 46) (vs := [.agg #[.int .i64 r_2.Num.A, .int .i64 r_2.Num.B, .int .i64 r_2.Num.C, .int .i64 r_2.Num.D, .int .i64 r_2.Exp], .agg #[.int .i64 r_3.Num.A, .int .i64 r_3.Num.B, .int .i64 r_3.Num.C, .int .i64 r_3.Num.D, .int .i64 r_3.Exp]]) k_call_46 rfl (mc rfl (mc rfl mn)) (c_impl_MulDyadic r_2 r_3 _  (hS7.inn0 [] rfl) hc2)) ?_ ?_
      · rintro _ w_3 ⟨rfl, hd2⟩
        have hS8 := hS7.out00 hd2
        refine ⟨(ST.sel hS8 [] rfl rfl), ?_⟩
        refine ra_q 21 29 (v := .agg #[.int .i64 r_4.Num.A, .int .i64 r_4.Num.B, .int .i64 r_4.Num.C, .int .i64 r_4.Num.D, .int .i64 r_4.Exp]) rfl rfl rfl (by kernel_rfl) (by kernel_rfl) (by kernel_rfl) (ST.sel hS8 [] rfl rfl) (fun w' hw' => (Y_extract (v := .agg #[.int .i64 r_4.Num.A, .int .i64 r_4.Num.B, .int .i64 r_4.Num.C, .int .i64 r_4.Num.D, .int .i64 r_4.Exp]) rfl rfl rfl)) ?_
        refine ra_q 22 30 (v := .bool r_5) rfl rfl rfl (by kernel_rfl) (by kernel_rfl) (by kernel_rfl) (ST.sel hS8 [] rfl rfl) (fun w' hw' => (Y_extract (v := .bool r_5) rfl rfl rfl)) ?_
        refine ra_all (rs := [23]) (by kernel_rfl) rfl ?_
        refine ra_s0 (i := 23) rfl rfl rfl (Ys_store (i := 0) (s := 5) (B := some ⟨b, 0, none⟩) (T' := 44) (v := .agg #[.int .i64 r_4.Num.A, .int .i64 r_4.Num.B, .int .i64 r_4.Num.C, .int .i64 r_4.Num.D, .int .i64 r_4.Exp]) (vs := [.int .i64 r_4.Num.A, .int .i64 r_4.Num.B, .int .i64 r_4.Num.C, .int .i64 r_4.Num.D, .int .i64 r_4.Exp]) (k := 0) (cs' := [.int .i64 r_4.Num.A, .int .i64 r_4.Num.B, .int .i64 r_4.Num.C, .int .i64 r_4.Num.D, .int .i64 r_4.Exp]) hS8 k_sz_44_5 rfl rfl rfl rfl rfl rfl rfl (Nat.le_of_ble_eq_true rfl) rfl rfl) ?_ ?_
        · rintro _ w_4 ⟨rfl, hS9⟩
          refine ⟨(ST.sel hS9 [] rfl rfl), ?_⟩
          refine ra_q 24 7 (v := .bool r_5) rfl rfl rfl (by kernel_rfl) (by kernel_rfl) (by kernel_rfl) (ST.sel hS9 [] rfl rfl) (fun w' hw' => (Y_assign (v := .bool r_5) rfl rfl)) ?_
          refine ra_done (by kernel_rfl) ?_
          refine cw_ret ?_
          obtain ⟨rfl, rfl⟩ := pr2 (some_inj hF)
          exact ret2 Try.results68 (v1 := .agg #[.int .i64 r_4.Num.A, .int .i64 r_4.Num.B, .int .i64 r_4.Num.C, .int .i64 r_4.Num.D, .int .i64 r_4.Exp]) (resAt_cellA (B := some ⟨b, 0, none⟩) (i := 0) (cs := [.int .i64 r_4.Num.A, .int .i64 r_4.Num.B, .int .i64 r_4.Num.C, .int .i64 r_4.Num.D, .int .i64 r_4.Exp]) (vs := [.int .i64 r_4.Num.A, .int .i64 r_4.Num.B, .int .i64 r_4.Num.C, .int .i64 r_4.Num.D, .int .i64 r_4.Exp]) rfl k_ag_44 k_sz_44_5 (hS9.cf (i := 0) rfl) rfl rfl) (v2 := .bool r_5) (resAt_tmp rfl) ⟨rfl, (ST.subR (R' := []) (hS9.sel [] rfl rfl) (fun _ h => by cases h))⟩
        exact allR_nil
      exact allR_nil
    exact allR_nil
  exact allR_nil

theorem c_impl_Kron (a : TMatrix) (b : TMatrix) (B : Option Addr) (c n : Nat) (B1 : Option Addr) (c1 n1 : Nat) (w0 : World) (hn : a.Cells.length = n) (hn1 : b.Cells.length = n1) (hS : ST w0 [] w0 [] [⟨B, (a.Cells.flatMap enc_Dyadic)⟩, ⟨B1, (b.Cells.flatMap enc_Dyadic)⟩]) {r_ : TMatrix} {r_1 : Bool} (hF : F_impl_Kron a b = some (r_, r_1)) :
    CV Try.prog 22 #[.agg #[.int .i64 a.Rows, .int .i64 a.Cols, .slice B n c], .agg #[.int .i64 b.Rows, .int .i64 b.Cols, .slice B1 n1 c1]] w0 (fun v w' => ∃ (B2 : Option Addr) (c2 : Nat), v = .tuple #[.agg #[.int .i64 r_.Rows, .int .i64 r_.Cols, .slice B2 r_.Cells.length c2], .bool r_1] ∧ ST w0 [] w' [⟨B2, 44, (r_.Cells.flatMap enc_Dyadic), c2 * 5⟩] []) := by
  subst hn
  subst hn1
  unfold F_impl_Kron at hF
  refine cv_of_cw 29 Try.func22 rfl Try.ntmps22 rfl ?_
  refine cw_seq ?_
  refine cw_region ?_
  refine ss 2 rfl rfl (Ys_box (T := 26) (v := .agg #[.int .i64 a.Rows, .int .i64 a.Cols, .slice B a.Cells.length c]) (cs := [.int .i64 a.Rows, .int .i64 a.Cols, .slice B a.Cells.length c]) (m := 3) hS rfl rfl rfl rfl) ?_
  rintro _ w_ ⟨b1, rfl, hS1⟩
  refine ss 3 rfl rfl (Ys_box (T := 26) (v := .agg #[.int .i64 b.Rows, .int .i64 b.Cols, .slice B1 b.Cells.length c1]) (cs := [.int .i64 b.Rows, .int .i64 b.Cols, .slice B1 b.Cells.length c1]) (m := 3) hS1 rfl rfl rfl rfl) ?_
  rintro _ w_1 ⟨b2, rfl, hS2⟩
  have hS2 : ST w0 [] _ [⟨some ⟨b1, 0, none⟩, 26, [.int .i64 a.Rows, .int .i64 a.Cols, .slice B a.Cells.length c], 3⟩, ⟨some ⟨b2, 0, none⟩, 26, [.int .i64 b.Rows, .int .i64 b.Cols, .slice B1 b.Cells.length c1], 3⟩] [⟨B, (a.Cells.flatMap enc_Dyadic)⟩, ⟨B1, (b.Cells.flatMap enc_Dyadic)⟩] := hS2
  refine ss 4 rfl rfl (Ys_alloc (T := 26) (cs := [.int .i64 0, .int .i64 0, .slice none 0 0]) (m := 3) hS2 k_zero_26 rfl rfl rfl) ?_
  rintro _ w_2 ⟨b3, rfl, hS3⟩
  have hS3 : ST w0 [] _ [⟨some ⟨b1, 0, none⟩, 26, [.int .i64 a.Rows, .int .i64 a.Cols, .slice B a.Cells.length c], 3⟩, ⟨some ⟨b2, 0, none⟩, 26, [.int .i64 b.Rows, .int .i64 b.Cols, .slice B1 b.Cells.length c1], 3⟩, ⟨some ⟨b3, 0, none⟩, 26, [.int .i64 0, .int .i64 0, .slice none 0 0], 3⟩] [⟨B, (a.Cells.flatMap enc_Dyadic)⟩, ⟨B1, (b.Cells.flatMap enc_Dyadic)⟩] := hS3
  refine sq 5 rfl rfl (Y_assign (v := .bool false) rfl rfl) ?_
  refine rw_nil ?_
  refine cw_seq ?_
  refine cw_seq ?_
  refine cw_region ?_
  refine sq 6 rfl rfl (Y_loadA (B := some ⟨b1, 0, none⟩) (i := 0) (cs := [.int .i64 a.Rows, .int .i64 a.Cols, .slice B a.Cells.length c]) (vs := [.int .i64 a.Rows, .int .i64 a.Cols, .slice B a.Cells.length c]) k_ag_26 k_sz_26_3 rfl rfl (hS3.cf (i := 0) rfl) rfl rfl) ?_
  obtain ⟨r_2, hc, hF⟩ := bind_inv hF
  refine sc 7 rfl rfl (Yc_func (g := 57) (vs := [.agg #[.int .i64 a.Rows, .int .i64 a.Cols, .slice B a.Cells.length c]]) k_call_57 rfl (mc rfl mn) (c_impl_IsValidMatrix a B c a.Cells.length _ rfl (hS3.inn0 [(true, 0)] rfl) hc)) ?_
  rintro _ w_3 ⟨rfl, hd⟩
  have hS4 := hS3.out00 hd
  have hS4 : ST w0 [] _ [⟨some ⟨b1, 0, none⟩, 26, [.int .i64 a.Rows, .int .i64 a.Cols, .slice B a.Cells.length c], 3⟩, ⟨some ⟨b2, 0, none⟩, 26, [.int .i64 b.Rows, .int .i64 b.Cols, .slice B1 b.Cells.length c1], 3⟩, ⟨some ⟨b3, 0, none⟩, 26, [.int .i64 0, .int .i64 0, .slice none 0 0], 3⟩] [⟨B, (a.Cells.flatMap enc_Dyadic)⟩, ⟨B1, (b.Cells.flatMap enc_Dyadic)⟩] := hS4
  refine sq 8 rfl rfl (Y_not (p := r_2) rfl rfl) ?_
  refine sq 9 rfl rfl (Y_move (v := .bool (!r_2)) rfl rfl) ?_
  refine sgq 10 (B := (!(!r_2))) (v := .agg #[.int .i64 b.Rows, .int .i64 b.Cols, .slice B1 b.Cells.length c1]) rfl rfl (wt_f (gd_of (t := 9) (by kernel_rfl) rfl)) (fun hg => (Y_loadA (B := some ⟨b2, 0, none⟩) (i := 0) (cs := [.int .i64 b.Rows, .int .i64 b.Cols, .slice B1 b.Cells.length c1]) (vs := [.int .i64 b.Rows, .int .i64 b.Cols, .slice B1 b.Cells.length c1]) k_ag_26 k_sz_26_3 rfl rfl (hS4.cf (i := 1) rfl) rfl rfl)) ?_
  obtain ⟨r_3, hc1, hF⟩ := bind_inv hF
  refine sgc 11 (B := (!(!r_2))) (v := .bool r_3) (F := hS4.fn) rfl rfl (wt_f (gd_of (t := 9) (by kernel_rfl) rfl)) hS4 (fun hg1 => (Yc_func (g := 57) (vs := [.agg #[.int .i64 b.Rows, .int .i64 b.Cols, .slice B1 b.Cells.length c1]]) k_call_57 rfl (mc (gv_of (B := (!(!r_2))) (v := .agg #[.int .i64 b.Rows, .int .i64 b.Cols, .slice B1 b.Cells.length c1]) hg1) mn) (CV.mono (c_impl_IsValidMatrix b B1 c1 b.Cells.length _ rfl (hS4.inn0 [(true, 1)] rfl) (gb_inv hc1 hg1)) (by rintro _ _ ⟨rfl, h⟩; exact ⟨rfl, hS4.out00 h⟩)))) ?_
  rintro w_4 hS5
  have hS5 : ST _ _ w_4 _ _ := hS5
  refine sgq 12 (B := (!(!r_2))) (v := .bool (!r_3)) rfl rfl (wt_f (gd_of (t := 9) (by kernel_rfl) rfl)) (fun hg2 => (Y_not (p := r_3) rfl (gv_of (B := (!(!r_2))) (v := .bool r_3) hg2))) ?_
  refine sq 13 rfl rfl (Y_or (b := (!r_2)) (z := (!r_3)) rfl rfl rfl rfl) ?_
  refine rw_nil ?_
  refine cw_cond (b := ((!r_2) || (!r_3))) rfl (fun hb => ?_) (fun hb => ?_)
  · skip
    have hF1 := ct hF hb
    refine cw_seq ?_
    refine cw_region ?_
    refine sq 14 rfl rfl (Y_buildS (zs := [.int .i64 0, .int .i64 0, .slice none 0 0]) (vs := []) (cs := [.int .i64 0, .int .i64 0, .slice none 0 0]) k_pl_26 k_zero_26 rfl mpn rfl) ?_
    refine ss0 rfl rfl (Ys_store (i := 2) (s := 3) (B := some ⟨b3, 0, none⟩) (T' := 26) (v := .agg #[.int .i64 0, .int .i64 0, .slice none 0 0]) (vs := [.int .i64 0, .int .i64 0, .slice none 0 0]) (k := 0) (cs' := [.int .i64 0, .int .i64 0, .slice none 0 0]) hS5 k_sz_26_3 rfl rfl rfl rfl rfl rfl rfl (Nat.le_of_ble_eq_true rfl) rfl rfl) ?_
    rintro _ w_5 ⟨rfl, hS6⟩
    have hS6 : ST w0 [] _ [⟨some ⟨b1, 0, none⟩, 26, [.int .i64 a.Rows, .int .i64 a.Cols, .slice B a.Cells.length c], 3⟩, ⟨some ⟨b2, 0, none⟩, 26, [.int .i64 b.Rows, .int .i64 b.Cols, .slice B1 b.Cells.length c1], 3⟩, ⟨some ⟨b3, 0, none⟩, 26, [.int .i64 0, .int .i64 0, .slice none 0 0], 3⟩] [⟨B, (a.Cells.flatMap enc_Dyadic)⟩, ⟨B1, (b.Cells.flatMap enc_Dyadic)⟩] := hS6
    refine sq 5 rfl rfl (Y_assign (v := .bool false) rfl rfl) ?_
    refine rw_nil ?_
    refine cw_ret ?_
    have hS7 := hS6.addNil 44
    obtain ⟨rfl, rfl⟩ := pr2 (some_inj hF1)
    exact ret2 Try.results22 (v1 := .agg #[.int .i64 0, .int .i64 0, .slice none 0 0]) (resAt_cellA (B := some ⟨b3, 0, none⟩) (i := 0) (cs := [.int .i64 0, .int .i64 0, .slice none 0 0]) (vs := [.int .i64 0, .int .i64 0, .slice none 0 0]) rfl k_ag_26 k_sz_26_3 (hS7.cf (i := 2) rfl) rfl rfl) (v2 := .bool false) (resAt_tmp rfl) ⟨none, 0, rfl, (ST.subR (R' := []) (hS7.sel [3] rfl rfl) (fun _ h => by cases h))⟩
  · skip
    have hF2 := cf' hF hb
    refine cw_skip ?_
    refine cw_seq ?_
    refine cw_region ?_
    refine sq 15 rfl rfl (Y_fieldAddr (B := some ⟨b1, 0, none⟩) (i := 0) (s := 0) k_fd_26_0_0_3 k_sz_3_1 rfl rfl) ?_
    refine sq 16 rfl rfl (Y_load1 (B := some ⟨b1, 0, none⟩) (i := 0) (cs := [.int .i64 a.Rows, .int .i64 a.Cols, .slice B a.Cells.length c]) (v := .int .i64 a.Rows) k_sc_3 rfl rfl (hS5.cf (i := 0) rfl) rfl) ?_
    refine sq 17 rfl rfl (Y_fieldAddr (B := some ⟨b2, 0, none⟩) (i := 0) (s := 0) k_fd_26_0_0_3 k_sz_3_1 rfl rfl) ?_
    refine sq 18 rfl rfl (Y_load1 (B := some ⟨b2, 0, none⟩) (i := 0) (cs := [.int .i64 b.Rows, .int .i64 b.Cols, .slice B1 b.Cells.length c1]) (v := .int .i64 b.Rows) k_sc_3 rfl rfl (hS5.cf (i := 1) rfl) rfl) ?_
    refine sq 19 rfl rfl (Y_mul (k := .i64) (a := a.Rows) (b := b.Rows) rfl rfl rfl) ?_
    refine sq 20 rfl rfl (Y_fieldAddr (B := some ⟨b1, 0, none⟩) (i := 0) (s := 0) k_fd_26_1_1_3 k_sz_3_1 rfl rfl) ?_
    refine sq 21 rfl rfl (Y_load1 (B := some ⟨b1, 0, none⟩) (i := 1) (cs := [.int .i64 a.Rows, .int .i64 a.Cols, .slice B a.Cells.length c]) (v := .int .i64 a.Cols) k_sc_3 rfl rfl (hS5.cf (i := 0) rfl) rfl) ?_
    refine sq 22 rfl rfl (Y_fieldAddr (B := some ⟨b2, 0, none⟩) (i := 0) (s := 0) k_fd_26_1_1_3 k_sz_3_1 rfl rfl) ?_
    refine sq 23 rfl rfl (Y_load1 (B := some ⟨b2, 0, none⟩) (i := 1) (cs := [.int .i64 b.Rows, .int .i64 b.Cols, .slice B1 b.Cells.length c1]) (v := .int .i64 b.Cols) k_sc_3 rfl rfl (hS5.cf (i := 1) rfl) rfl) ?_
    refine sq 24 rfl rfl (Y_mul (k := .i64) (a := a.Cols) (b := b.Cols) rfl rfl rfl) ?_
    refine sq 25 rfl rfl (Y_makeFunc (cs := [pt (some ⟨b1, 0, none⟩) 0, pt (some ⟨b2, 0, none⟩) 0]) rfl rfl (mc rfl (mc rfl mn))) ?_
    obtain ⟨⟨r_4, r_5⟩, hc2, hF2⟩ := bind_inv hF2
    refine sc 26 rfl rfl (Yc_func (g := 43) (vs := [.int .i64 (IntKind.i64.wrap (a.Rows * b.Rows)), .int .i64 (IntKind.i64.wrap (a.Cols * b.Cols)), .func (.func 68) #[] #[pt (some ⟨b1, 0, none⟩) 0, pt (some ⟨b2, 0, none⟩) 0]]) k_call_43 rfl (mc rfl (mc rfl (mc rfl mn))) (c_impl_matrixOf (IntKind.i64.wrap (a.Rows * b.Rows)) (IntKind.i64.wrap (a.Cols * b.Cols)) (fun x_0 x_1 => F_impl_Kron_1 x_0 x_1 a b) 68 (#[pt (some ⟨b1, 0, none⟩) 0, pt (some ⟨b2, 0, none⟩) 0]) [⟨some ⟨b1, 0, none⟩, [.int .i64 a.Rows, .int .i64 a.Cols, .slice B a.Cells.length c]⟩, ⟨B, (a.Cells.flatMap enc_Dyadic)⟩, ⟨some ⟨b2, 0, none⟩, [.int .i64 b.Rows, .int .i64 b.Cols, .slice B1 b.Cells.length c1]⟩, ⟨B1, (b.Cells.flatMap enc_Dyadic)⟩] _ k_call_68 (fun w hw x_0 x_1 y_0 y_1 h_ => c_impl_Kron_1 x_0 x_1 a b (some ⟨b1, 0, none⟩) B c a.Cells.length (some ⟨b2, 0, none⟩) B1 c1 b.Cells.length w rfl rfl hw h_) (hS5.inn0 [(false, 0), (true, 0), (false, 1), (true, 1)] rfl) hc2)) ?_
    rintro _ w_6 ⟨B3, c3, rfl, hd1⟩
    have hS8 := hS5.out0 hd1
    have hS8 : ST w0 [] _ [⟨some ⟨b1, 0, none⟩, 26, [.int .i64 a.Rows, .int .i64 a.Cols, .slice B a.Cells.length c], 3⟩, ⟨some ⟨b2, 0, none⟩, 26, [.int .i64 b.Rows, .int .i64 b.Cols, .slice B1 b.Cells.length c1], 3⟩, ⟨some ⟨b3, 0, none⟩, 26, [.int .i64 0, .int .i64 0, .slice none 0 0], 3⟩, ⟨B3, 44, (r_4.Cells.flatMap enc_Dyadic), c3 * 5⟩] [⟨B, (a.Cells.flatMap enc_Dyadic)⟩, ⟨B1, (b.Cells.flatMap enc_Dyadic)⟩] := hS8
    refine sq 27 rfl rfl (Y_extract (v := .agg #[.int .i64 r_4.Rows, .int .i64 r_4.Cols, .slice B3 r_4.Cells.length c3]) rfl rfl rfl) ?_
    refine sq 28 rfl rfl (Y_extract (v := .bool r_5) rfl rfl rfl) ?_
    refine ss0 rfl rfl (Ys_store (i := 2) (s := 3) (B := some ⟨b3, 0, none⟩) (T' := 26) (v := .agg #[.int .i64 r_4.Rows, .int .i64 r_4.Cols, .slice B3 r_4.Cells.length c3]) (vs := [.int .i64 r_4.Rows, .int .i64 r_4.Cols, .slice B3 r_4.Cells.length c3]) (k := 0) (cs' := [.int .i64 r_4.Rows, .int .i64 r_4.Cols, .slice B3 r_4.Cells.length c3]) hS8 k_sz_26_3 rfl rfl rfl rfl rfl rfl rfl (Nat.le_of_ble_eq_true rfl) rfl rfl) ?_
    rintro _ w_7 ⟨rfl, hS9⟩
    have hS9 : ST w0 [] _ [⟨some ⟨b1, 0, none⟩, 26, [.int .i64 a.Rows, .int .i64 a.Cols, .slice B a.Cells.length c], 3⟩, ⟨some ⟨b2, 0, none⟩, 26, [.int .i64 b.Rows, .int .i64 b.Cols, .slice B1 b.Cells.length c1], 3⟩, ⟨some ⟨b3, 0, none⟩, 26, [.int .i64 r_4.Rows, .int .i64 r_4.Cols, .slice B3 r_4.Cells.length c3], 3⟩, ⟨B3, 44, (r_4.Cells.flatMap enc_Dyadic), c3 * 5⟩] [⟨B, (a.Cells.flatMap enc_Dyadic)⟩, ⟨B1, (b.Cells.flatMap enc_Dyadic)⟩] := hS9
    refine sq 5 rfl rfl (Y_assign (v := .bool r_5) rfl rfl) ?_
    refine rw_nil ?_
    refine cw_ret ?_
    obtain ⟨rfl, rfl⟩ := pr2 (some_inj hF2)
    exact ret2 Try.results22 (v1 := .agg #[.int .i64 r_4.Rows, .int .i64 r_4.Cols, .slice B3 r_4.Cells.length c3]) (resAt_cellA (B := some ⟨b3, 0, none⟩) (i := 0) (cs := [.int .i64 r_4.Rows, .int .i64 r_4.Cols, .slice B3 r_4.Cells.length c3]) (vs := [.int .i64 r_4.Rows, .int .i64 r_4.Cols, .slice B3 r_4.Cells.length c3]) rfl k_ag_26 k_sz_26_3 (hS9.cf (i := 2) rfl) rfl rfl) (v2 := .bool r_5) (resAt_tmp rfl) ⟨B3, c3, rfl, (ST.subR (R' := []) (hS9.sel [3] rfl rfl) (fun _ h => by cases h))⟩
end Go.VK
