/- Walks: each Go function returns what its Lean function says. By program. -/
import Derived.Test.YthfilimbhhijaaaIsOneQubitFa
import Derived.Test.YthfilimbhhijaaaIsOneQubitW1
set_option linter.unusedVariables false
set_option maxRecDepth 100000
set_option maxHeartbeats 1000000
namespace Go.VK
open Go.RowKit
open Go.Proofs
attribute [local irreducible] CW RW RA CV Y Yw Yc Ys RetOf
attribute [local irreducible] F_laws_szDyadicS F_laws_szMatrix F_laws_toRing F_laws_toDyadic F_laws_toDyadicS F_laws_toMatrix F_laws_eqRing F_laws_eqDyadic F_laws_eqDyadicS F_laws_eqMatrix F_spec_l1In F_spec_l1All F_spec_l1Good F_spec_l1Even F_spec_l2Good F_spec_l1Has F_spec_l3Dim F_spec_l3Good F_spec_l1Root F_spec_l1Half F_spec_l2Low F_spec_l2C_ring F_spec_l1Mul F_spec_l2C_mul F_spec_l1Add F_spec_l2C_add F_spec_l2C_times F_spec_l1Conj F_spec_l2Conj F_spec_l3Adj F_spec_EqualMatrices F_spec_l1Turn F_spec_l2Power F_spec_l3Unit F_spec_IsUnitary F_spec_l9Good F_spec_IsOneQubit F_slices_IndexFunc_impl_Dyadic_impl_Dyadic F_slices_ContainsFunc_impl_Dyadic_impl_Dyadic F_impl_within F_impl_isDim F_impl_isCoef F_impl_IsValidRing F_impl_isEven F_impl_IsValidDyadic F_impl_IsValidMatrix_1 F_impl_IsValidMatrix F_impl_matrixOf F_impl_ringIf F_impl_Conjugate F_impl_ConjDyadic F_impl_Matrix_at F_impl_Adjoint_1 F_impl_Adjoint F_impl_MulRing F_impl_DivRootTwo F_impl_DyadicOf F_impl_MulDyadic F_impl_MulRootTwo F_impl_raised F_impl_combined F_impl_AddRing F_impl_AddDyadic F_impl_MulMatrix_1 F_impl_MulMatrix F_impl_whole F_impl_IdentityMatrix_1 F_impl_IdentityMatrix F_slices_Equal_impl_Dyadic_impl_Dyadic F_impl_EqualMatrices F_impl_IsUnitary F_impl_IsOneQubit F_laws_FnExactIsOneQubit
theorem c_spec_l2C_times (c : Tl2C) (a : TMatrix) (b : TMatrix) (B : Option Addr) (B1 : Option Addr) (c1 n : Nat) (B2 : Option Addr) (c2 n1 : Nat) (w0 : World) (hn : a.Cells.length = n) (hn1 : b.Cells.length = n1) (hS : ST w0 (bl [⟨B, 126, [.bool c.bad], 1⟩]) w0 [⟨B, 126, [.bool c.bad], 1⟩] [⟨B1, (a.Cells.flatMap enc_Dyadic)⟩, ⟨B2, (b.Cells.flatMap enc_Dyadic)⟩]) {r_ : TMatrix} {m : Tl2C} (hF : F_spec_l2C_times c a b = some (r_, m)) :
    CV Try.prog 95 #[pt B 0, .agg #[.int .i64 a.Rows, .int .i64 a.Cols, .slice B1 n c1], .agg #[.int .i64 b.Rows, .int .i64 b.Cols, .slice B2 n1 c2]] w0 (fun v w' => ∃ (B3 : Option Addr) (c3 : Nat), v = .agg #[.int .i64 r_.Rows, .int .i64 r_.Cols, .slice B3 r_.Cells.length c3] ∧ ST w0 (bl [⟨B, 126, [.bool c.bad], 1⟩]) w' [⟨B, 126, [.bool m.bad], 1⟩, ⟨B3, 91, (r_.Cells.flatMap enc_Dyadic), c3 * 5⟩] []) := by
  subst hn
  subst hn1
  unfold F_spec_l2C_times at hF
  refine cv_of_cw 75 Try.func95 rfl Try.ntmps95 rfl ?_
  refine cw_seq ?_
  refine cw_region ?_
  refine ss 4 rfl rfl (Ys_box (T := 62) (v := .agg #[.int .i64 a.Rows, .int .i64 a.Cols, .slice B1 a.Cells.length c1]) (cs := [.int .i64 a.Rows, .int .i64 a.Cols, .slice B1 a.Cells.length c1]) (m := 3) hS rfl rfl rfl rfl) ?_
  rintro _ w_ ⟨b1, rfl, hS1⟩
  have hS1 : ST w0 (bl [⟨B, 126, [.bool c.bad], 1⟩]) _ [⟨B, 126, [.bool c.bad], 1⟩, ⟨some ⟨b1, 0, none⟩, 62, [.int .i64 a.Rows, .int .i64 a.Cols, .slice B1 a.Cells.length c1], 3⟩] [⟨B1, (a.Cells.flatMap enc_Dyadic)⟩, ⟨B2, (b.Cells.flatMap enc_Dyadic)⟩] := hS1
  refine ss 5 rfl rfl (Ys_box (T := 62) (v := .agg #[.int .i64 b.Rows, .int .i64 b.Cols, .slice B2 b.Cells.length c2]) (cs := [.int .i64 b.Rows, .int .i64 b.Cols, .slice B2 b.Cells.length c2]) (m := 3) hS1 rfl rfl rfl rfl) ?_
  rintro _ w_1 ⟨b2, rfl, hS2⟩
  have hS2 : ST w0 (bl [⟨B, 126, [.bool c.bad], 1⟩]) _ [⟨B, 126, [.bool c.bad], 1⟩, ⟨some ⟨b1, 0, none⟩, 62, [.int .i64 a.Rows, .int .i64 a.Cols, .slice B1 a.Cells.length c1], 3⟩, ⟨some ⟨b2, 0, none⟩, 62, [.int .i64 b.Rows, .int .i64 b.Cols, .slice B2 b.Cells.length c2], 3⟩] [⟨B1, (a.Cells.flatMap enc_Dyadic)⟩, ⟨B2, (b.Cells.flatMap enc_Dyadic)⟩] := hS2
  refine ss 6 rfl rfl (Ys_alloc (T := 62) (cs := [.int .i64 0, .int .i64 0, .slice none 0 0]) (m := 3) hS2 k_zero_62 rfl rfl rfl) ?_
  rintro _ w_2 ⟨b3, rfl, hS3⟩
  have hS3 : ST w0 (bl [⟨B, 126, [.bool c.bad], 1⟩]) _ [⟨B, 126, [.bool c.bad], 1⟩, ⟨some ⟨b1, 0, none⟩, 62, [.int .i64 a.Rows, .int .i64 a.Cols, .slice B1 a.Cells.length c1], 3⟩, ⟨some ⟨b2, 0, none⟩, 62, [.int .i64 b.Rows, .int .i64 b.Cols, .slice B2 b.Cells.length c2], 3⟩, ⟨some ⟨b3, 0, none⟩, 62, [.int .i64 0, .int .i64 0, .slice none 0 0], 3⟩] [⟨B1, (a.Cells.flatMap enc_Dyadic)⟩, ⟨B2, (b.Cells.flatMap enc_Dyadic)⟩] := hS3
  refine rw_nil ?_
  refine cw_seq ?_
  refine cw_region ?_
  refine sq 12 rfl rfl (Y_fieldAddr (B := some ⟨b1, 0, none⟩) (i := 0) (s := 0) k_fd_62_0_0_3 k_sz_3_1 rfl rfl) ?_
  refine sq 13 rfl rfl (Y_load1 (B := some ⟨b1, 0, none⟩) (i := 0) (cs := [.int .i64 a.Rows, .int .i64 a.Cols, .slice B1 a.Cells.length c1]) (v := .int .i64 a.Rows) k_sc_3 rfl rfl (hS3.cf (i := 1) rfl) rfl) ?_
  refine sq 14 rfl rfl (Y_fieldAddr (B := some ⟨b2, 0, none⟩) (i := 0) (s := 0) k_fd_62_1_1_3 k_sz_3_1 rfl rfl) ?_
  refine sq 15 rfl rfl (Y_load1 (B := some ⟨b2, 0, none⟩) (i := 1) (cs := [.int .i64 b.Rows, .int .i64 b.Cols, .slice B2 b.Cells.length c2]) (v := .int .i64 b.Cols) k_sc_3 rfl rfl (hS3.cf (i := 2) rfl) rfl) ?_
  refine sq 16 rfl rfl (Y_buildS (zs := [.int .i64 0, .int .i64 0, .slice none 0 0]) (vs := [(0, .int .i64 a.Rows), (1, .int .i64 b.Cols)]) (cs := [.int .i64 a.Rows, .int .i64 b.Cols, .slice none 0 0]) k_pl_62 k_zero_62 rfl (mpc rfl (mpc rfl mpn)) rfl) ?_
  refine ss 7 rfl rfl (Ys_alloc (T := 62) (cs := [.int .i64 0, .int .i64 0, .slice none 0 0]) (m := 3) hS3 k_zero_62 rfl rfl rfl) ?_
  rintro _ w_3 ⟨b4, rfl, hS4⟩
  have hS4 : ST w0 (bl [⟨B, 126, [.bool c.bad], 1⟩]) _ [⟨B, 126, [.bool c.bad], 1⟩, ⟨some ⟨b1, 0, none⟩, 62, [.int .i64 a.Rows, .int .i64 a.Cols, .slice B1 a.Cells.length c1], 3⟩, ⟨some ⟨b2, 0, none⟩, 62, [.int .i64 b.Rows, .int .i64 b.Cols, .slice B2 b.Cells.length c2], 3⟩, ⟨some ⟨b3, 0, none⟩, 62, [.int .i64 0, .int .i64 0, .slice none 0 0], 3⟩, ⟨some ⟨b4, 0, none⟩, 62, [.int .i64 0, .int .i64 0, .slice none 0 0], 3⟩] [⟨B1, (a.Cells.flatMap enc_Dyadic)⟩, ⟨B2, (b.Cells.flatMap enc_Dyadic)⟩] := hS4
  refine ss0 rfl rfl (Ys_store (i := 4) (s := 3) (B := some ⟨b4, 0, none⟩) (T' := 62) (v := .agg #[.int .i64 a.Rows, .int .i64 b.Cols, .slice none 0 0]) (vs := [.int .i64 a.Rows, .int .i64 b.Cols, .slice none 0 0]) (k := 0) (cs' := [.int .i64 a.Rows, .int .i64 b.Cols, .slice none 0 0]) hS4 k_sz_62_3 rfl rfl rfl rfl rfl rfl rfl (Nat.le_of_ble_eq_true rfl) rfl rfl) ?_
  rintro _ w_4 ⟨rfl, hS5⟩
  have hS5 : ST w0 (bl [⟨B, 126, [.bool c.bad], 1⟩]) _ [⟨B, 126, [.bool c.bad], 1⟩, ⟨some ⟨b1, 0, none⟩, 62, [.int .i64 a.Rows, .int .i64 a.Cols, .slice B1 a.Cells.length c1], 3⟩, ⟨some ⟨b2, 0, none⟩, 62, [.int .i64 b.Rows, .int .i64 b.Cols, .slice B2 b.Cells.length c2], 3⟩, ⟨some ⟨b3, 0, none⟩, 62, [.int .i64 0, .int .i64 0, .slice none 0 0], 3⟩, ⟨some ⟨b4, 0, none⟩, 62, [.int .i64 a.Rows, .int .i64 b.Cols, .slice none 0 0], 3⟩] [⟨B1, (a.Cells.flatMap enc_Dyadic)⟩, ⟨B2, (b.Cells.flatMap enc_Dyadic)⟩] := hS5
  refine rw_nil ?_
  refine cw_seq ?_
  refine cw_seq ?_
  refine cw_region ?_
  refine sq 8 rfl rfl (Y_assign (v := .int .i64 0) rfl rfl) ?_
  refine rw_nil ?_
  obtain ⟨hN, hF⟩ := chk_inv hF
  obtain ⟨z, hz, hF1⟩ := bind_inv hF
  have hS7 := hS5.addNil 91
  refine cw_block ?_
  refine cw_loop (fun k f w => ∃ (i1 : Nat) (bad : Bool) (Cells : List TDyadic) (B4 : Option Addr) (c4 : Nat), FF f [(0, pt B 0), (4, pt (some ⟨b1, 0, none⟩) 0), (5, pt (some ⟨b2, 0, none⟩) 0), (6, pt (some ⟨b3, 0, none⟩) 0), (7, pt (some ⟨b4, 0, none⟩) 0), (8, .int .i64 (i1 : Int))] ∧ ST w0 (bl [⟨B, 126, [.bool c.bad], 1⟩]) w [⟨B, 126, [.bool bad], 1⟩, ⟨some ⟨b1, 0, none⟩, 62, [.int .i64 a.Rows, .int .i64 a.Cols, .slice B1 a.Cells.length c1], 3⟩, ⟨some ⟨b2, 0, none⟩, 62, [.int .i64 b.Rows, .int .i64 b.Cols, .slice B2 b.Cells.length c2], 3⟩, ⟨some ⟨b3, 0, none⟩, 62, [.int .i64 0, .int .i64 0, .slice none 0 0], 3⟩, ⟨some ⟨b4, 0, none⟩, 62, [.int .i64 a.Rows, .int .i64 b.Cols, .slice B4 Cells.length c4], 3⟩, ⟨B4, 91, (Cells.flatMap enc_Dyadic), c4 * 5⟩] [⟨B1, (a.Cells.flatMap enc_Dyadic)⟩, ⟨B2, (b.Cells.flatMap enc_Dyadic)⟩] ∧ i1 + k = a.Rows.toNat ∧ forN (F_spec_l2C_times_l1 b a) k i1 (bad, Cells) = some z) a.Rows.toNat ⟨0, c.bad, [], none, 0, (FF.cons rfl (FF.cons rfl (FF.cons rfl (FF.cons rfl (FF.cons rfl (FF.cons rfl FF.nil)))))), (hS7.sel [0, 1, 2, 3, 4, 5] rfl rfl), Nat.zero_add _, hz⟩ ?_
  rintro k_ f w ⟨i1, bad, Cells, B4, c4, hf, hS6, hik, hL⟩
  refine cw_seq ?_
  refine cw_seq ?_
  refine cw_region ?_
  refine sq 17 rfl rfl (Y_move (v := .int .i64 (i1 : Int)) rfl (hf.get 8 5 rfl)) ?_
  refine sq 18 rfl rfl (Y_fieldAddr (B := some ⟨b1, 0, none⟩) (i := 0) (s := 0) k_fd_62_0_0_3 k_sz_3_1 rfl (hf.get 4 1 rfl)) ?_
  refine sq 19 rfl rfl (Y_load1 (B := some ⟨b1, 0, none⟩) (i := 0) (cs := [.int .i64 a.Rows, .int .i64 a.Cols, .slice B1 a.Cells.length c1]) (v := .int .i64 a.Rows) k_sc_3 rfl rfl (hS6.cf (i := 1) rfl) rfl) ?_
  refine sq 20 rfl rfl (Y_lt (k := .i64) (a := (i1 : Int)) (b := a.Rows) rfl rfl rfl) ?_
  refine rw_nil ?_
  refine cw_cond (b := (decide ((i1 : Int) < a.Rows))) rfl (fun hlt => ?_) (fun hlt => ?_)
  · skip
    have hlt1 : i1 < a.Rows.toNat := by have h := of_decide_eq_true hlt; omega
    obtain ⟨k_1, rfl⟩ : ∃ k2, k_ = k2 + 1 := ⟨k_ - 1, by omega⟩
    obtain ⟨y, hb, hL1⟩ := forN_go hL
    unfold F_spec_l2C_times_l1 at hb
    refine cw_skip ?_
    refine cw_seq ?_
    refine cw_block ?_
    refine cw_seq ?_
    refine cw_region ?_
    refine sq 9 rfl rfl (Y_assign (v := .int .i64 0) rfl rfl) ?_
    refine rw_nil ?_
    obtain ⟨hN1, hb⟩ := chk_inv hb
    obtain ⟨z1, hz1, hF2⟩ := bind_inv hb
    refine cw_block ?_
    refine cw_loop (fun k f w => ∃ (j : Nat) (bad1 : Bool) (Cells1 : List TDyadic) (B5 : Option Addr) (c5 : Nat), FF f [(0, pt B 0), (4, pt (some ⟨b1, 0, none⟩) 0), (5, pt (some ⟨b2, 0, none⟩) 0), (6, pt (some ⟨b3, 0, none⟩) 0), (7, pt (some ⟨b4, 0, none⟩) 0), (8, .int .i64 (i1 : Int)), (9, .int .i64 (j : Int))] ∧ ST w0 (bl [⟨B, 126, [.bool c.bad], 1⟩]) w [⟨B, 126, [.bool bad1], 1⟩, ⟨some ⟨b1, 0, none⟩, 62, [.int .i64 a.Rows, .int .i64 a.Cols, .slice B1 a.Cells.length c1], 3⟩, ⟨some ⟨b2, 0, none⟩, 62, [.int .i64 b.Rows, .int .i64 b.Cols, .slice B2 b.Cells.length c2], 3⟩, ⟨some ⟨b3, 0, none⟩, 62, [.int .i64 0, .int .i64 0, .slice none 0 0], 3⟩, ⟨some ⟨b4, 0, none⟩, 62, [.int .i64 a.Rows, .int .i64 b.Cols, .slice B5 Cells1.length c5], 3⟩, ⟨B5, 91, (Cells1.flatMap enc_Dyadic), c5 * 5⟩] [⟨B1, (a.Cells.flatMap enc_Dyadic)⟩, ⟨B2, (b.Cells.flatMap enc_Dyadic)⟩] ∧ j + k = b.Cols.toNat ∧ forN (F_spec_l2C_times_l2 a Cells i1 b bad) k j (bad1, Cells1) = some z1) b.Cols.toNat ⟨0, bad, Cells, B4, c4, (FF.cons (hf.get 0 0 rfl) (FF.cons (hf.get 4 1 rfl) (FF.cons (hf.get 5 2 rfl) (FF.cons (hf.get 6 3 rfl) (FF.cons (hf.get 7 4 rfl) (FF.cons (hf.get 8 5 rfl) (FF.cons rfl FF.nil))))))), (hS6.sel [0, 1, 2, 3, 4, 5] rfl rfl), Nat.zero_add _, hz1⟩ ?_
    rintro k_2 f w ⟨j, bad1, Cells1, B5, c5, hf1, hS8, hik1, hL2⟩
    refine cw_seq ?_
    refine cw_seq ?_
    refine cw_region ?_
    refine sq 23 rfl rfl (Y_move (v := .int .i64 (j : Int)) rfl (hf1.get 9 6 rfl)) ?_
    refine sq 24 rfl rfl (Y_fieldAddr (B := some ⟨b2, 0, none⟩) (i := 0) (s := 0) k_fd_62_1_1_3 k_sz_3_1 rfl (hf1.get 5 2 rfl)) ?_
    refine sq 25 rfl rfl (Y_load1 (B := some ⟨b2, 0, none⟩) (i := 1) (cs := [.int .i64 b.Rows, .int .i64 b.Cols, .slice B2 b.Cells.length c2]) (v := .int .i64 b.Cols) k_sc_3 rfl rfl (hS8.cf (i := 2) rfl) rfl) ?_
    refine sq 26 rfl rfl (Y_lt (k := .i64) (a := (j : Int)) (b := b.Cols) rfl rfl rfl) ?_
    refine rw_nil ?_
    refine cw_cond (b := (decide ((j : Int) < b.Cols))) rfl (fun hlt2 => ?_) (fun hlt2 => ?_)
    · skip
      have hlt3 : j < b.Cols.toNat := by have h := of_decide_eq_true hlt2; omega
      obtain ⟨k_3, rfl⟩ : ∃ k2, k_2 = k2 + 1 := ⟨k_2 - 1, by omega⟩
      obtain ⟨y1, hb1, hL3⟩ := forN_go hL2
      unfold F_spec_l2C_times_l2 at hb1
      refine cw_skip ?_
      refine cw_seq ?_
      refine cw_block ?_
      refine cw_seq ?_
      refine cw_region ?_
      refine sq 29 rfl rfl (Y_buildS (zs := [.int .i64 0, .int .i64 0, .int .i64 0, .int .i64 0, .int .i64 0]) (vs := []) (cs := [.int .i64 0, .int .i64 0, .int .i64 0, .int .i64 0, .int .i64 0]) k_pl_91 k_zero_91 rfl mpn rfl) ?_
      refine ss 10 rfl rfl (Ys_alloc (T := 91) (cs := [.int .i64 0, .int .i64 0, .int .i64 0, .int .i64 0, .int .i64 0]) (m := 5) hS8 k_zero_91 rfl rfl rfl) ?_
      rintro _ w_5 ⟨b5, rfl, hS9⟩
      have hS9 : ST w0 (bl [⟨B, 126, [.bool c.bad], 1⟩]) _ [⟨B, 126, [.bool bad1], 1⟩, ⟨some ⟨b1, 0, none⟩, 62, [.int .i64 a.Rows, .int .i64 a.Cols, .slice B1 a.Cells.length c1], 3⟩, ⟨some ⟨b2, 0, none⟩, 62, [.int .i64 b.Rows, .int .i64 b.Cols, .slice B2 b.Cells.length c2], 3⟩, ⟨some ⟨b3, 0, none⟩, 62, [.int .i64 0, .int .i64 0, .slice none 0 0], 3⟩, ⟨some ⟨b4, 0, none⟩, 62, [.int .i64 a.Rows, .int .i64 b.Cols, .slice B5 Cells1.length c5], 3⟩, ⟨B5, 91, (Cells1.flatMap enc_Dyadic), c5 * 5⟩, ⟨some ⟨b5, 0, none⟩, 91, [.int .i64 0, .int .i64 0, .int .i64 0, .int .i64 0, .int .i64 0], 5⟩] [⟨B1, (a.Cells.flatMap enc_Dyadic)⟩, ⟨B2, (b.Cells.flatMap enc_Dyadic)⟩] := hS9
      refine ss0 rfl rfl (Ys_store (i := 6) (s := 5) (B := some ⟨b5, 0, none⟩) (T' := 91) (v := .agg #[.int .i64 0, .int .i64 0, .int .i64 0, .int .i64 0, .int .i64 0]) (vs := [.int .i64 0, .int .i64 0, .int .i64 0, .int .i64 0, .int .i64 0]) (k := 0) (cs' := [.int .i64 0, .int .i64 0, .int .i64 0, .int .i64 0, .int .i64 0]) hS9 k_sz_91_5 rfl rfl rfl rfl rfl rfl rfl (Nat.le_of_ble_eq_true rfl) rfl rfl) ?_
      rintro _ w_6 ⟨rfl, hS10⟩
      have hS10 : ST w0 (bl [⟨B, 126, [.bool c.bad], 1⟩]) _ [⟨B, 126, [.bool bad1], 1⟩, ⟨some ⟨b1, 0, none⟩, 62, [.int .i64 a.Rows, .int .i64 a.Cols, .slice B1 a.Cells.length c1], 3⟩, ⟨some ⟨b2, 0, none⟩, 62, [.int .i64 b.Rows, .int .i64 b.Cols, .slice B2 b.Cells.length c2], 3⟩, ⟨some ⟨b3, 0, none⟩, 62, [.int .i64 0, .int .i64 0, .slice none 0 0], 3⟩, ⟨some ⟨b4, 0, none⟩, 62, [.int .i64 a.Rows, .int .i64 b.Cols, .slice B5 Cells1.length c5], 3⟩, ⟨B5, 91, (Cells1.flatMap enc_Dyadic), c5 * 5⟩, ⟨some ⟨b5, 0, none⟩, 91, [.int .i64 0, .int .i64 0, .int .i64 0, .int .i64 0, .int .i64 0], 5⟩] [⟨B1, (a.Cells.flatMap enc_Dyadic)⟩, ⟨B2, (b.Cells.flatMap enc_Dyadic)⟩] := hS10
      refine rw_nil ?_
      refine cw_seq ?_
      refine cw_seq ?_
      refine cw_region ?_
      refine sq 11 rfl rfl (Y_assign (v := .int .i64 0) rfl rfl) ?_
      refine rw_nil ?_
      obtain ⟨z2, hz2, hF3⟩ := bind_inv hb1
      refine cw_block ?_
      refine cw_loop (fun k f w => ∃ (bad2 : Bool) (A : Int) (B6 : Int) (C : Int) (D : Int) (Exp : Int) (k_4 : Int), FF f [(0, pt B 0), (4, pt (some ⟨b1, 0, none⟩) 0), (5, pt (some ⟨b2, 0, none⟩) 0), (6, pt (some ⟨b3, 0, none⟩) 0), (7, pt (some ⟨b4, 0, none⟩) 0), (8, .int .i64 (i1 : Int)), (9, .int .i64 (j : Int)), (10, pt (some ⟨b5, 0, none⟩) 0), (11, .int .i64 k_4)] ∧ ST w0 (bl [⟨B, 126, [.bool c.bad], 1⟩]) w [⟨B, 126, [.bool bad2], 1⟩, ⟨some ⟨b1, 0, none⟩, 62, [.int .i64 a.Rows, .int .i64 a.Cols, .slice B1 a.Cells.length c1], 3⟩, ⟨some ⟨b2, 0, none⟩, 62, [.int .i64 b.Rows, .int .i64 b.Cols, .slice B2 b.Cells.length c2], 3⟩, ⟨some ⟨b3, 0, none⟩, 62, [.int .i64 0, .int .i64 0, .slice none 0 0], 3⟩, ⟨some ⟨b4, 0, none⟩, 62, [.int .i64 a.Rows, .int .i64 b.Cols, .slice B5 Cells1.length c5], 3⟩, ⟨B5, 91, (Cells1.flatMap enc_Dyadic), c5 * 5⟩, ⟨some ⟨b5, 0, none⟩, 91, [.int .i64 A, .int .i64 B6, .int .i64 C, .int .i64 D, .int .i64 Exp], 5⟩] [⟨B1, (a.Cells.flatMap enc_Dyadic)⟩, ⟨B2, (b.Cells.flatMap enc_Dyadic)⟩] ∧ whX (F_spec_l2C_times_l3 a Cells i1 b j bad) k (bad2, A, B6, C, D, Exp, k_4) = some z2) fuel ⟨bad1, 0, 0, 0, 0, 0, 0, (FF.cons (hf1.get 0 0 rfl) (FF.cons (hf1.get 4 1 rfl) (FF.cons (hf1.get 5 2 rfl) (FF.cons (hf1.get 6 3 rfl) (FF.cons (hf1.get 7 4 rfl) (FF.cons (hf1.get 8 5 rfl) (FF.cons (hf1.get 9 6 rfl) (FF.cons rfl (FF.cons rfl FF.nil))))))))), (hS10.sel [0, 1, 2, 3, 4, 5, 6] rfl rfl), hz2⟩ ?_
      rintro k_5 f w ⟨bad2, A, B6, C, D, Exp, k_4, hf2, hS11, hL4⟩
      obtain ⟨k_6, y2, rfl, hb2, hL5⟩ := whX_go hL4
      unfold F_spec_l2C_times_l3 at hb2
      refine cw_seq ?_
      refine cw_seq ?_
      refine cw_region ?_
      refine sq 30 rfl rfl (Y_move (v := .int .i64 k_4) rfl (hf2.get 11 8 rfl)) ?_
      refine sq 31 rfl rfl (Y_fieldAddr (B := some ⟨b1, 0, none⟩) (i := 0) (s := 0) k_fd_62_1_1_3 k_sz_3_1 rfl (hf2.get 4 1 rfl)) ?_
      refine sq 32 rfl rfl (Y_load1 (B := some ⟨b1, 0, none⟩) (i := 1) (cs := [.int .i64 a.Rows, .int .i64 a.Cols, .slice B1 a.Cells.length c1]) (v := .int .i64 a.Cols) k_sc_3 rfl rfl (hS11.cf (i := 1) rfl) rfl) ?_
      refine sq 33 rfl rfl (Y_lt (k := .i64) (a := k_4) (b := a.Cols) rfl rfl rfl) ?_
      refine sq 34 rfl rfl (Y_move (v := .bool (decide (k_4 < a.Cols))) rfl rfl) ?_
      refine sgq 35 (B := (decide (k_4 < a.Cols))) (v := pt B 0) rfl rfl (wt_t (gd_of (t := 34) (by kernel_rfl) rfl)) (fun hg => (Y_move (v := pt B 0) rfl (hf2.get 0 0 rfl))) ?_
      refine sgq 36 (B := (decide (k_4 < a.Cols))) (v := pt B 0) rfl rfl (wt_t (gd_of (t := 34) (by kernel_rfl) rfl)) (fun hg1 => (Y_nilCheck (B := B) (i := 0) rfl (gv_of (B := (decide (k_4 < a.Cols))) (v := pt B 0) hg1))) ?_
      refine sgq 37 (B := (decide (k_4 < a.Cols))) (v := pt B 0) rfl rfl (wt_t (gd_of (t := 34) (by kernel_rfl) rfl)) (fun hg2 => (Y_fieldAddr (B := B) (i := 0) (s := 0) k_fd_126_0_0_4 k_sz_4_1 rfl (gv_of (B := (decide (k_4 < a.Cols))) (v := pt B 0) hg2))) ?_
      refine sgq 38 (B := (decide (k_4 < a.Cols))) (v := .bool bad2) rfl rfl (wt_t (gd_of (t := 34) (by kernel_rfl) rfl)) (fun hg3 => (Y_load1 (B := B) (i := 0) (cs := [.bool bad2]) (v := .bool bad2) k_sc_4 rfl (gv_of (B := (decide (k_4 < a.Cols))) (v := pt B 0) hg3) (hS11.cf (i := 0) rfl) rfl)) ?_
      refine sgq 39 (B := (decide (k_4 < a.Cols))) (v := .bool (!bad2)) rfl rfl (wt_t (gd_of (t := 34) (by kernel_rfl) rfl)) (fun hg4 => (Y_not (p := bad2) rfl (gv_of (B := (decide (k_4 < a.Cols))) (v := .bool bad2) hg4))) ?_
      refine sq 40 rfl rfl (Y_and (b := (decide (k_4 < a.Cols))) (z := (!bad2)) rfl rfl rfl rfl) ?_
      refine rw_nil ?_
      refine cw_cond (b := ((decide (k_4 < a.Cols)) && (!bad2))) rfl (fun hb3 => ?_) (fun hb3 => ?_)
      · skip
        have hF4 := ct hb2 hb3
        refine cw_skip ?_
        refine cw_seq ?_
        refine cw_block ?_
        obtain ⟨x, hx, hF4⟩ := bind_inv hF4
        obtain ⟨x1, hx1, hF4⟩ := bind_inv hF4
        obtain ⟨⟨r_1, m1⟩, hc, hF4⟩ := bind_inv hF4
        obtain ⟨⟨r_2, m2⟩, hc1, hF4⟩ := bind_inv hF4
        refine cw_mid (fun f w => FF f [(0, pt B 0), (4, pt (some ⟨b1, 0, none⟩) 0), (5, pt (some ⟨b2, 0, none⟩) 0), (6, pt (some ⟨b3, 0, none⟩) 0), (7, pt (some ⟨b4, 0, none⟩) 0), (8, .int .i64 (i1 : Int)), (9, .int .i64 (j : Int)), (10, pt (some ⟨b5, 0, none⟩) 0), (11, .int .i64 k_4)] ∧ ST w0 (bl [⟨B, 126, [.bool c.bad], 1⟩]) w [⟨B, 126, [.bool m2.bad], 1⟩, ⟨some ⟨b1, 0, none⟩, 62, [.int .i64 a.Rows, .int .i64 a.Cols, .slice B1 a.Cells.length c1], 3⟩, ⟨some ⟨b2, 0, none⟩, 62, [.int .i64 b.Rows, .int .i64 b.Cols, .slice B2 b.Cells.length c2], 3⟩, ⟨some ⟨b3, 0, none⟩, 62, [.int .i64 0, .int .i64 0, .slice none 0 0], 3⟩, ⟨some ⟨b4, 0, none⟩, 62, [.int .i64 a.Rows, .int .i64 b.Cols, .slice B5 Cells1.length c5], 3⟩, ⟨B5, 91, (Cells1.flatMap enc_Dyadic), c5 * 5⟩, ⟨some ⟨b5, 0, none⟩, 91, [.int .i64 r_2.Num.A, .int .i64 r_2.Num.B, .int .i64 r_2.Num.C, .int .i64 r_2.Num.D, .int .i64 r_2.Exp], 5⟩] [⟨B1, (a.Cells.flatMap enc_Dyadic)⟩, ⟨B2, (b.Cells.flatMap enc_Dyadic)⟩]) ?_ ?_
        · skip
          refine ra_start (ST.sel hS11 [1, 2, 3, 4, 5] rfl rfl).fn (by kernel_rfl) ?_
          have hS15 := hS11.drew
          refine ra_q 0 43 (v := pt B 0) rfl rfl rfl (by kernel_rfl) (by kernel_rfl) (by kernel_rfl) (ST.sel hS15 [1, 2, 3, 4, 5] rfl rfl) (fun w' hw' => (Y_move (v := pt B 0) rfl (hf2.get 0 0 rfl))) ?_
          refine ra_q 2 45 (v := pt B 0) rfl rfl rfl (by kernel_rfl) (by kernel_rfl) (by kernel_rfl) (ST.sel hS15 [1, 2, 3, 4, 5] rfl rfl) (fun w' hw' => (Y_move (v := pt B 0) rfl (hf2.get 0 0 rfl))) ?_
          refine ra_q 3 46 (v := pt (some ⟨b1, 0, none⟩) 2) rfl rfl rfl (by kernel_rfl) (by kernel_rfl) (by kernel_rfl) (ST.sel hS15 [1, 2, 3, 4, 5] rfl rfl) (fun w' hw' => (Y_fieldAddr (B := some ⟨b1, 0, none⟩) (i := 0) (s := 0) k_fd_62_2_2_27 k_sz_27_1 rfl (hf2.get 4 1 rfl))) ?_
          refine ra_q 4 47 (v := .slice B1 a.Cells.length c1) rfl rfl rfl (by kernel_rfl) (by kernel_rfl) (by kernel_rfl) (ST.sel hS15 [1, 2, 3, 4, 5] rfl rfl) (fun w' hw' => (Y_load1 (B := some ⟨b1, 0, none⟩) (i := 2) (cs := [.int .i64 a.Rows, .int .i64 a.Cols, .slice B1 a.Cells.length c1]) (v := .slice B1 a.Cells.length c1) k_sc_27 rfl rfl (ST.cf hw' (i := 0) rfl) rfl)) ?_
          refine ra_q 5 48 (v := .int .i64 (i1 : Int)) rfl rfl rfl (by kernel_rfl) (by kernel_rfl) (by kernel_rfl) (ST.sel hS15 [1, 2, 3, 4, 5] rfl rfl) (fun w' hw' => (Y_move (v := .int .i64 (i1 : Int)) rfl (hf2.get 8 5 rfl))) ?_
          refine ra_q 6 49 (v := pt (some ⟨b1, 0, none⟩) 1) rfl rfl rfl (by kernel_rfl) (by kernel_rfl) (by kernel_rfl) (ST.sel hS15 [1, 2, 3, 4, 5] rfl rfl) (fun w' hw' => (Y_fieldAddr (B := some ⟨b1, 0, none⟩) (i := 0) (s := 0) k_fd_62_1_1_3 k_sz_3_1 rfl (hf2.get 4 1 rfl))) ?_
          refine ra_q 7 50 (v := .int .i64 a.Cols) rfl rfl rfl (by kernel_rfl) (by kernel_rfl) (by kernel_rfl) (ST.sel hS15 [1, 2, 3, 4, 5] rfl rfl) (fun w' hw' => (Y_load1 (B := some ⟨b1, 0, none⟩) (i := 1) (cs := [.int .i64 a.Rows, .int .i64 a.Cols, .slice B1 a.Cells.length c1]) (v := .int .i64 a.Cols) k_sc_3 rfl rfl (ST.cf hw' (i := 0) rfl) rfl)) ?_
          refine ra_q 8 51 (v := .int .i64 (IntKind.i64.wrap ((i1 : Int) * a.Cols))) rfl rfl rfl (by kernel_rfl) (by kernel_rfl) (by kernel_rfl) (ST.sel hS15 [1, 2, 3, 4, 5] rfl rfl) (fun w' hw' => (Y_mul (k := .i64) (a := (i1 : Int)) (b := a.Cols) rfl rfl rfl)) ?_
          refine ra_q 9 52 (v := .int .i64 k_4) rfl rfl rfl (by kernel_rfl) (by kernel_rfl) (by kernel_rfl) (ST.sel hS15 [1, 2, 3, 4, 5] rfl rfl) (fun w' hw' => (Y_move (v := .int .i64 k_4) rfl (hf2.get 11 8 rfl))) ?_
          refine ra_q 10 53 (v := .int .i64 (IntKind.i64.wrap ((IntKind.i64.wrap ((i1 : Int) * a.Cols)) + k_4))) rfl rfl rfl (by kernel_rfl) (by kernel_rfl) (by kernel_rfl) (ST.sel hS15 [1, 2, 3, 4, 5] rfl rfl) (fun w' hw' => (Y_add (k := .i64) (a := (IntKind.i64.wrap ((i1 : Int) * a.Cols))) (b := k_4) rfl rfl rfl)) ?_
          refine ra_q 11 54 (v := pt B1 ((IntKind.i64.wrap ((IntKind.i64.wrap ((i1 : Int) * a.Cols)) + k_4)).toNat * 5)) rfl rfl rfl (by kernel_rfl) (by kernel_rfl) (by kernel_rfl) (ST.sel hS15 [1, 2, 3, 4, 5] rfl rfl) (fun w' hw' => (Y_index (B := B1) (m := a.Cells.length) (c := c1) (k := .i64) (i := (IntKind.i64.wrap ((IntKind.i64.wrap ((i1 : Int) * a.Cols)) + k_4))) k_sl_27_91 k_sz_91_5 rfl rfl rfl (gi_isSome enc_Dyadic_len rfl (ST.rf hw' (i := 0) rfl) hx) (getI_nn hx) (getI_ltI hx rfl))) ?_
          refine ra_q 12 55 (v := .agg #[.int .i64 x.Num.A, .int .i64 x.Num.B, .int .i64 x.Num.C, .int .i64 x.Num.D, .int .i64 x.Exp]) rfl rfl rfl (by kernel_rfl) (by kernel_rfl) (by kernel_rfl) (ST.sel hS15 [1, 2, 3, 4, 5] rfl rfl) (fun w' hw' => (Y_loadA (B := B1) (i := (IntKind.i64.wrap ((IntKind.i64.wrap ((i1 : Int) * a.Cols)) + k_4)).toNat * 5) (cs := (a.Cells.flatMap enc_Dyadic)) (vs := [.int .i64 x.Num.A, .int .i64 x.Num.B, .int .i64 x.Num.C, .int .i64 x.Num.D, .int .i64 x.Exp]) k_ag_91 k_sz_91_5 rfl rfl (ST.rf hw' (i := 0) rfl) (enc_Dyadic_len x) (gi_seg enc_Dyadic_len hx))) ?_
          refine ra_q 13 56 (v := pt (some ⟨b2, 0, none⟩) 2) rfl rfl rfl (by kernel_rfl) (by kernel_rfl) (by kernel_rfl) (ST.sel hS15 [1, 2, 3, 4, 5] rfl rfl) (fun w' hw' => (Y_fieldAddr (B := some ⟨b2, 0, none⟩) (i := 0) (s := 0) k_fd_62_2_2_27 k_sz_27_1 rfl (hf2.get 5 2 rfl))) ?_
          refine ra_q 14 57 (v := .slice B2 b.Cells.length c2) rfl rfl rfl (by kernel_rfl) (by kernel_rfl) (by kernel_rfl) (ST.sel hS15 [1, 2, 3, 4, 5] rfl rfl) (fun w' hw' => (Y_load1 (B := some ⟨b2, 0, none⟩) (i := 2) (cs := [.int .i64 b.Rows, .int .i64 b.Cols, .slice B2 b.Cells.length c2]) (v := .slice B2 b.Cells.length c2) k_sc_27 rfl rfl (ST.cf hw' (i := 1) rfl) rfl)) ?_
          refine ra_q 15 58 (v := .int .i64 k_4) rfl rfl rfl (by kernel_rfl) (by kernel_rfl) (by kernel_rfl) (ST.sel hS15 [1, 2, 3, 4, 5] rfl rfl) (fun w' hw' => (Y_move (v := .int .i64 k_4) rfl (hf2.get 11 8 rfl))) ?_
          refine ra_q 16 59 (v := pt (some ⟨b2, 0, none⟩) 1) rfl rfl rfl (by kernel_rfl) (by kernel_rfl) (by kernel_rfl) (ST.sel hS15 [1, 2, 3, 4, 5] rfl rfl) (fun w' hw' => (Y_fieldAddr (B := some ⟨b2, 0, none⟩) (i := 0) (s := 0) k_fd_62_1_1_3 k_sz_3_1 rfl (hf2.get 5 2 rfl))) ?_
          refine ra_q 17 60 (v := .int .i64 b.Cols) rfl rfl rfl (by kernel_rfl) (by kernel_rfl) (by kernel_rfl) (ST.sel hS15 [1, 2, 3, 4, 5] rfl rfl) (fun w' hw' => (Y_load1 (B := some ⟨b2, 0, none⟩) (i := 1) (cs := [.int .i64 b.Rows, .int .i64 b.Cols, .slice B2 b.Cells.length c2]) (v := .int .i64 b.Cols) k_sc_3 rfl rfl (ST.cf hw' (i := 1) rfl) rfl)) ?_
          refine ra_q 18 61 (v := .int .i64 (IntKind.i64.wrap (k_4 * b.Cols))) rfl rfl rfl (by kernel_rfl) (by kernel_rfl) (by kernel_rfl) (ST.sel hS15 [1, 2, 3, 4, 5] rfl rfl) (fun w' hw' => (Y_mul (k := .i64) (a := k_4) (b := b.Cols) rfl rfl rfl)) ?_
          refine ra_q 19 62 (v := .int .i64 (j : Int)) rfl rfl rfl (by kernel_rfl) (by kernel_rfl) (by kernel_rfl) (ST.sel hS15 [1, 2, 3, 4, 5] rfl rfl) (fun w' hw' => (Y_move (v := .int .i64 (j : Int)) rfl (hf2.get 9 6 rfl))) ?_
          refine ra_q 20 63 (v := .int .i64 (IntKind.i64.wrap ((IntKind.i64.wrap (k_4 * b.Cols)) + (j : Int)))) rfl rfl rfl (by kernel_rfl) (by kernel_rfl) (by kernel_rfl) (ST.sel hS15 [1, 2, 3, 4, 5] rfl rfl) (fun w' hw' => (Y_add (k := .i64) (a := (IntKind.i64.wrap (k_4 * b.Cols))) (b := (j : Int)) rfl rfl rfl)) ?_
          refine ra_q 21 64 (v := pt B2 ((IntKind.i64.wrap ((IntKind.i64.wrap (k_4 * b.Cols)) + (j : Int))).toNat * 5)) rfl rfl rfl (by kernel_rfl) (by kernel_rfl) (by kernel_rfl) (ST.sel hS15 [1, 2, 3, 4, 5] rfl rfl) (fun w' hw' => (Y_index (B := B2) (m := b.Cells.length) (c := c2) (k := .i64) (i := (IntKind.i64.wrap ((IntKind.i64.wrap (k_4 * b.Cols)) + (j : Int)))) k_sl_27_91 k_sz_91_5 rfl rfl rfl (gi_isSome enc_Dyadic_len rfl (ST.rf hw' (i := 1) rfl) hx1) (getI_nn hx1) (getI_ltI hx1 rfl))) ?_
          refine ra_q 22 65 (v := .agg #[.int .i64 x1.Num.A, .int .i64 x1.Num.B, .int .i64 x1.Num.C, .int .i64 x1.Num.D, .int .i64 x1.Exp]) rfl rfl rfl (by kernel_rfl) (by kernel_rfl) (by kernel_rfl) (ST.sel hS15 [1, 2, 3, 4, 5] rfl rfl) (fun w' hw' => (Y_loadA (B := B2) (i := (IntKind.i64.wrap ((IntKind.i64.wrap (k_4 * b.Cols)) + (j : Int))).toNat * 5) (cs := (b.Cells.flatMap enc_Dyadic)) (vs := [.int .i64 x1.Num.A, .int .i64 x1.Num.B, .int .i64 x1.Num.C, .int .i64 x1.Num.D, .int .i64 x1.Exp]) k_ag_91 k_sz_91_5 rfl rfl (ST.rf hw' (i := 1) rfl) (enc_Dyadic_len x1) (gi_seg enc_Dyadic_len hx1))) ?_
          refine ra_all (rs := [1, 23]) (by kernel_rfl) rfl ?_
          refine ra_y 44 (i := 1) (v := .agg #[.int .i64 A, .int .i64 B6, .int .i64 C, .int .i64 D, .int .i64 Exp]) rfl rfl rfl (Y_loadA (B := some ⟨b5, 0, none⟩) (i := 0) (cs := [.int .i64 A, .int .i64 B6, .int .i64 C, .int .i64 D, .int .i64 Exp]) (vs := [.int .i64 A, .int .i64 B6, .int .i64 C, .int .i64 D, .int .i64 Exp]) k_ag_91 k_sz_91_5 rfl (hf2.get 10 7 rfl) (hS15.cf (i := 6) rfl) rfl rfl) (ST.sel hS15 [1, 2, 3, 4, 5] rfl rfl) ?_ ?_
          · skip
            refine ra_all (rs := [23]) (by kernel_rfl) rfl ?_
            refine ra_c 66 (i := 23) rfl rfl rfl (Yc_func (g := 125) (vs := [pt B 0, .agg #[.int .i64 x.Num.A, .int .i64 x.Num.B, .int .i64 x.Num.C, .int .i64 x.Num.D, .int .i64 x.Exp], .agg #[.int .i64 x1.Num.A, .int .i64 x1.Num.B, .int .i64 x1.Num.C, .int .i64 x1.Num.D, .int .i64 x1.Exp]]) k_call_125 rfl (mc rfl (mc rfl (mc rfl mn))) (c_spec_l2C_mul (Tl2C.mk bad2) x x1 B _  (hS15.inn [true, false, false, false, false, false, false] rfl [] rfl) hc)) ?_ ?_
            · rintro _ w_7 ⟨rfl, hd⟩
              have hS16 := hS15.out [true, false, false, false, false, false, false] rfl hd
              have hS16 : ST w0 (bl [⟨B, 126, [.bool c.bad], 1⟩]) _ [⟨some ⟨b1, 0, none⟩, 62, [.int .i64 a.Rows, .int .i64 a.Cols, .slice B1 a.Cells.length c1], 3⟩, ⟨some ⟨b2, 0, none⟩, 62, [.int .i64 b.Rows, .int .i64 b.Cols, .slice B2 b.Cells.length c2], 3⟩, ⟨some ⟨b3, 0, none⟩, 62, [.int .i64 0, .int .i64 0, .slice none 0 0], 3⟩, ⟨some ⟨b4, 0, none⟩, 62, [.int .i64 a.Rows, .int .i64 b.Cols, .slice B5 Cells1.length c5], 3⟩, ⟨B5, 91, (Cells1.flatMap enc_Dyadic), c5 * 5⟩, ⟨some ⟨b5, 0, none⟩, 91, [.int .i64 A, .int .i64 B6, .int .i64 C, .int .i64 D, .int .i64 Exp], 5⟩, ⟨B, 126, [.bool m1.bad], 1⟩] [⟨B1, (a.Cells.flatMap enc_Dyadic)⟩, ⟨B2, (b.Cells.flatMap enc_Dyadic)⟩] := hS16
              refine ⟨(ST.sel hS16 [0, 1, 2, 3, 4] rfl rfl), ?_⟩
              refine ra_all (rs := [24]) (by kernel_rfl) rfl ?_
              refine ra_c 67 (i := 24) rfl rfl rfl (Yc_func (g := 127) (vs := [pt B 0, .agg #[.int .i64 A, .int .i64 B6, .int .i64 C, .int .i64 D, .int .i64 Exp], .agg #[.int .i64 r_1.Num.A, .int .i64 r_1.Num.B, .int .i64 r_1.Num.C, .int .i64 r_1.Num.D, .int .i64 r_1.Exp]]) k_call_127 rfl (mc rfl (mc rfl (mc rfl mn))) (c_spec_l2C_add m1 (TDyadic.mk (TRing.mk A B6 C D) Exp) r_1 B _  (hS16.inn [false, false, false, false, false, false, true] rfl [] rfl) hc1)) ?_ ?_
              · rintro _ w_8 ⟨rfl, hd1⟩
                have hS17 := hS16.out [false, false, false, false, false, false, true] rfl hd1
                have hS17 : ST w0 (bl [⟨B, 126, [.bool c.bad], 1⟩]) _ [⟨some ⟨b1, 0, none⟩, 62, [.int .i64 a.Rows, .int .i64 a.Cols, .slice B1 a.Cells.length c1], 3⟩, ⟨some ⟨b2, 0, none⟩, 62, [.int .i64 b.Rows, .int .i64 b.Cols, .slice B2 b.Cells.length c2], 3⟩, ⟨some ⟨b3, 0, none⟩, 62, [.int .i64 0, .int .i64 0, .slice none 0 0], 3⟩, ⟨some ⟨b4, 0, none⟩, 62, [.int .i64 a.Rows, .int .i64 b.Cols, .slice B5 Cells1.length c5], 3⟩, ⟨B5, 91, (Cells1.flatMap enc_Dyadic), c5 * 5⟩, ⟨some ⟨b5, 0, none⟩, 91, [.int .i64 A, .int .i64 B6, .int .i64 C, .int .i64 D, .int .i64 Exp], 5⟩, ⟨B, 126, [.bool m2.bad], 1⟩] [⟨B1, (a.Cells.flatMap enc_Dyadic)⟩, ⟨B2, (b.Cells.flatMap enc_Dyadic)⟩] := hS17
                refine ⟨(ST.sel hS17 [0, 1, 2, 3, 4] rfl rfl), ?_⟩
                refine ra_all (rs := [25]) (by kernel_rfl) rfl ?_
                refine ra_s0 (i := 25) rfl rfl rfl (Ys_store (i := 5) (s := 5) (B := some ⟨b5, 0, none⟩) (T' := 91) (v := .agg #[.int .i64 r_2.Num.A, .int .i64 r_2.Num.B, .int .i64 r_2.Num.C, .int .i64 r_2.Num.D, .int .i64 r_2.Exp]) (vs := [.int .i64 r_2.Num.A, .int .i64 r_2.Num.B, .int .i64 r_2.Num.C, .int .i64 r_2.Num.D, .int .i64 r_2.Exp]) (k := 0) (cs' := [.int .i64 r_2.Num.A, .int .i64 r_2.Num.B, .int .i64 r_2.Num.C, .int .i64 r_2.Num.D, .int .i64 r_2.Exp]) hS17 k_sz_91_5 rfl (hf2.get 10 7 rfl) rfl rfl rfl rfl rfl (Nat.le_of_ble_eq_true rfl) rfl rfl) ?_ ?_
                · rintro _ w_9 ⟨rfl, hS18⟩
                  have hS18 : ST w0 (bl [⟨B, 126, [.bool c.bad], 1⟩]) _ [⟨some ⟨b1, 0, none⟩, 62, [.int .i64 a.Rows, .int .i64 a.Cols, .slice B1 a.Cells.length c1], 3⟩, ⟨some ⟨b2, 0, none⟩, 62, [.int .i64 b.Rows, .int .i64 b.Cols, .slice B2 b.Cells.length c2], 3⟩, ⟨some ⟨b3, 0, none⟩, 62, [.int .i64 0, .int .i64 0, .slice none 0 0], 3⟩, ⟨some ⟨b4, 0, none⟩, 62, [.int .i64 a.Rows, .int .i64 b.Cols, .slice B5 Cells1.length c5], 3⟩, ⟨B5, 91, (Cells1.flatMap enc_Dyadic), c5 * 5⟩, ⟨some ⟨b5, 0, none⟩, 91, [.int .i64 r_2.Num.A, .int .i64 r_2.Num.B, .int .i64 r_2.Num.C, .int .i64 r_2.Num.D, .int .i64 r_2.Exp], 5⟩, ⟨B, 126, [.bool m2.bad], 1⟩] [⟨B1, (a.Cells.flatMap enc_Dyadic)⟩, ⟨B2, (b.Cells.flatMap enc_Dyadic)⟩] := hS18
                  refine ⟨(ST.sel hS18 [0, 1, 2, 3, 4] rfl rfl), ?_⟩
                  refine ra_done (by kernel_rfl) ?_
                  exact ⟨(FF.cons (hf2.get 0 0 rfl) (FF.cons (hf2.get 4 1 rfl) (FF.cons (hf2.get 5 2 rfl) (FF.cons (hf2.get 6 3 rfl) (FF.cons (hf2.get 7 4 rfl) (FF.cons (hf2.get 8 5 rfl) (FF.cons (hf2.get 9 6 rfl) (FF.cons (hf2.get 10 7 rfl) (FF.cons (hf2.get 11 8 rfl) FF.nil))))))))), (hS18.sel [6, 0, 1, 2, 3, 4, 5] rfl rfl)⟩
                exact allR_nil
              exact allR_nil
            exact allR_nil
          refine ra_c 66 (i := 23) rfl rfl rfl (Yc_func (g := 125) (vs := [pt B 0, .agg #[.int .i64 x.Num.A, .int .i64 x.Num.B, .int .i64 x.Num.C, .int .i64 x.Num.D, .int .i64 x.Exp], .agg #[.int .i64 x1.Num.A, .int .i64 x1.Num.B, .int .i64 x1.Num.C, .int .i64 x1.Num.D, .int .i64 x1.Exp]]) k_call_125 rfl (mc rfl (mc rfl (mc rfl mn))) (c_spec_l2C_mul (Tl2C.mk bad2) x x1 B _  (hS15.inn [true, false, false, false, false, false, false] rfl [] rfl) hc)) ?_ ?_
          · rintro _ w_10 ⟨rfl, hd2⟩
            have hS19 := hS15.out [true, false, false, false, false, false, false] rfl hd2
            have hS19 : ST w0 (bl [⟨B, 126, [.bool c.bad], 1⟩]) _ [⟨some ⟨b1, 0, none⟩, 62, [.int .i64 a.Rows, .int .i64 a.Cols, .slice B1 a.Cells.length c1], 3⟩, ⟨some ⟨b2, 0, none⟩, 62, [.int .i64 b.Rows, .int .i64 b.Cols, .slice B2 b.Cells.length c2], 3⟩, ⟨some ⟨b3, 0, none⟩, 62, [.int .i64 0, .int .i64 0, .slice none 0 0], 3⟩, ⟨some ⟨b4, 0, none⟩, 62, [.int .i64 a.Rows, .int .i64 b.Cols, .slice B5 Cells1.length c5], 3⟩, ⟨B5, 91, (Cells1.flatMap enc_Dyadic), c5 * 5⟩, ⟨some ⟨b5, 0, none⟩, 91, [.int .i64 A, .int .i64 B6, .int .i64 C, .int .i64 D, .int .i64 Exp], 5⟩, ⟨B, 126, [.bool m1.bad], 1⟩] [⟨B1, (a.Cells.flatMap enc_Dyadic)⟩, ⟨B2, (b.Cells.flatMap enc_Dyadic)⟩] := hS19
            refine ⟨(ST.sel hS19 [0, 1, 2, 3, 4] rfl rfl), ?_⟩
            refine ra_all (rs := [1]) (by kernel_rfl) rfl ?_
            refine ra_y 44 (i := 1) (v := .agg #[.int .i64 A, .int .i64 B6, .int .i64 C, .int .i64 D, .int .i64 Exp]) rfl rfl rfl (Y_loadA (B := some ⟨b5, 0, none⟩) (i := 0) (cs := [.int .i64 A, .int .i64 B6, .int .i64 C, .int .i64 D, .int .i64 Exp]) (vs := [.int .i64 A, .int .i64 B6, .int .i64 C, .int .i64 D, .int .i64 Exp]) k_ag_91 k_sz_91_5 rfl (hf2.get 10 7 rfl) (hS19.cf (i := 5) rfl) rfl rfl) (ST.sel hS19 [0, 1, 2, 3, 4] rfl rfl) ?_ ?_
            · skip
              refine ra_all (rs := [24]) (by kernel_rfl) rfl ?_
              refine ra_c 67 (i := 24) rfl rfl rfl (Yc_func (g := 127) (vs := [pt B 0, .agg #[.int .i64 A, .int .i64 B6, .int .i64 C, .int .i64 D, .int .i64 Exp], .agg #[.int .i64 r_1.Num.A, .int .i64 r_1.Num.B, .int .i64 r_1.Num.C, .int .i64 r_1.Num.D, .int .i64 r_1.Exp]]) k_call_127 rfl (mc rfl (mc rfl (mc rfl mn))) (c_spec_l2C_add m1 (TDyadic.mk (TRing.mk A B6 C D) Exp) r_1 B _  (hS19.inn [false, false, false, false, false, false, true] rfl [] rfl) hc1)) ?_ ?_
              · rintro _ w_11 ⟨rfl, hd3⟩
                have hS20 := hS19.out [false, false, false, false, false, false, true] rfl hd3
                have hS20 : ST w0 (bl [⟨B, 126, [.bool c.bad], 1⟩]) _ [⟨some ⟨b1, 0, none⟩, 62, [.int .i64 a.Rows, .int .i64 a.Cols, .slice B1 a.Cells.length c1], 3⟩, ⟨some ⟨b2, 0, none⟩, 62, [.int .i64 b.Rows, .int .i64 b.Cols, .slice B2 b.Cells.length c2], 3⟩, ⟨some ⟨b3, 0, none⟩, 62, [.int .i64 0, .int .i64 0, .slice none 0 0], 3⟩, ⟨some ⟨b4, 0, none⟩, 62, [.int .i64 a.Rows, .int .i64 b.Cols, .slice B5 Cells1.length c5], 3⟩, ⟨B5, 91, (Cells1.flatMap enc_Dyadic), c5 * 5⟩, ⟨some ⟨b5, 0, none⟩, 91, [.int .i64 A, .int .i64 B6, .int .i64 C, .int .i64 D, .int .i64 Exp], 5⟩, ⟨B, 126, [.bool m2.bad], 1⟩] [⟨B1, (a.Cells.flatMap enc_Dyadic)⟩, ⟨B2, (b.Cells.flatMap enc_Dyadic)⟩] := hS20
                refine ⟨(ST.sel hS20 [0, 1, 2, 3, 4] rfl rfl), ?_⟩
                refine ra_all (rs := [25]) (by kernel_rfl) rfl ?_
                refine ra_s0 (i := 25) rfl rfl rfl (Ys_store (i := 5) (s := 5) (B := some ⟨b5, 0, none⟩) (T' := 91) (v := .agg #[.int .i64 r_2.Num.A, .int .i64 r_2.Num.B, .int .i64 r_2.Num.C, .int .i64 r_2.Num.D, .int .i64 r_2.Exp]) (vs := [.int .i64 r_2.Num.A, .int .i64 r_2.Num.B, .int .i64 r_2.Num.C, .int .i64 r_2.Num.D, .int .i64 r_2.Exp]) (k := 0) (cs' := [.int .i64 r_2.Num.A, .int .i64 r_2.Num.B, .int .i64 r_2.Num.C, .int .i64 r_2.Num.D, .int .i64 r_2.Exp]) hS20 k_sz_91_5 rfl (hf2.get 10 7 rfl) rfl rfl rfl rfl rfl (Nat.le_of_ble_eq_true rfl) rfl rfl) ?_ ?_
                · rintro _ w_12 ⟨rfl, hS21⟩
                  have hS21 : ST w0 (bl [⟨B, 126, [.bool c.bad], 1⟩]) _ [⟨some ⟨b1, 0, none⟩, 62, [.int .i64 a.Rows, .int .i64 a.Cols, .slice B1 a.Cells.length c1], 3⟩, ⟨some ⟨b2, 0, none⟩, 62, [.int .i64 b.Rows, .int .i64 b.Cols, .slice B2 b.Cells.length c2], 3⟩, ⟨some ⟨b3, 0, none⟩, 62, [.int .i64 0, .int .i64 0, .slice none 0 0], 3⟩, ⟨some ⟨b4, 0, none⟩, 62, [.int .i64 a.Rows, .int .i64 b.Cols, .slice B5 Cells1.length c5], 3⟩, ⟨B5, 91, (Cells1.flatMap enc_Dyadic), c5 * 5⟩, ⟨some ⟨b5, 0, none⟩, 91, [.int .i64 r_2.Num.A, .int .i64 r_2.Num.B, .int .i64 r_2.Num.C, .int .i64 r_2.Num.D, .int .i64 r_2.Exp], 5⟩, ⟨B, 126, [.bool m2.bad], 1⟩] [⟨B1, (a.Cells.flatMap enc_Dyadic)⟩, ⟨B2, (b.Cells.flatMap enc_Dyadic)⟩] := hS21
                  refine ⟨(ST.sel hS21 [0, 1, 2, 3, 4] rfl rfl), ?_⟩
                  refine ra_done (by kernel_rfl) ?_
                  exact ⟨(FF.cons (hf2.get 0 0 rfl) (FF.cons (hf2.get 4 1 rfl) (FF.cons (hf2.get 5 2 rfl) (FF.cons (hf2.get 6 3 rfl) (FF.cons (hf2.get 7 4 rfl) (FF.cons (hf2.get 8 5 rfl) (FF.cons (hf2.get 9 6 rfl) (FF.cons (hf2.get 10 7 rfl) (FF.cons (hf2.get 11 8 rfl) FF.nil))))))))), (hS21.sel [6, 0, 1, 2, 3, 4, 5] rfl rfl)⟩
                exact allR_nil
              exact allR_nil
            exact allR_nil
          exact allR_nil
        rintro f w ⟨hf3, hS14⟩
        refine cw_region ?_
        refine sq 41 rfl rfl (Y_move (v := .int .i64 k_4) rfl (hf3.get 11 8 rfl)) ?_
        refine sq 42 rfl rfl (Y_add (k := .i64) (a := k_4) (b := 1) rfl rfl rfl) ?_
        refine sq 11 rfl rfl (Y_assign (v := .int .i64 (IntKind.i64.wrap (k_4 + 1))) rfl rfl) ?_
        refine rw_nil ?_
        obtain rfl := some_inj hF4
        exact ⟨k_6, Nat.lt_succ_self _, m2.bad, r_2.Num.A, r_2.Num.B, r_2.Num.C, r_2.Num.D, r_2.Exp, (IntKind.i64.wrap (k_4 + 1)), (FF.cons (hf3.get 0 0 rfl) (FF.cons (hf3.get 4 1 rfl) (FF.cons (hf3.get 5 2 rfl) (FF.cons (hf3.get 6 3 rfl) (FF.cons (hf3.get 7 4 rfl) (FF.cons (hf3.get 8 5 rfl) (FF.cons (hf3.get 9 6 rfl) (FF.cons (hf3.get 10 7 rfl) (FF.cons rfl FF.nil))))))))), (hS14.sel [0, 1, 2, 3, 4, 5, 6] rfl rfl), hL5⟩
      · skip
        have hF5 := cf' hb2 hb3
        refine cw_exit rfl ?_
        obtain rfl := some_inj hF5
        obtain rfl := some_inj hL5
        refine cw_region ?_
        refine sq 68 rfl rfl (Y_fieldAddr (B := some ⟨b4, 0, none⟩) (i := 0) (s := 0) k_fd_62_2_2_27 k_sz_27_1 rfl (hf2.get 7 4 rfl)) ?_
        refine sq 69 rfl rfl (Y_load1 (B := some ⟨b4, 0, none⟩) (i := 2) (cs := [.int .i64 a.Rows, .int .i64 b.Cols, .slice B5 Cells1.length c5]) (v := .slice B5 Cells1.length c5) k_sc_27 rfl rfl (hS11.cf (i := 4) rfl) rfl) ?_
        refine sq 70 rfl rfl (Y_loadA (B := some ⟨b5, 0, none⟩) (i := 0) (cs := [.int .i64 A, .int .i64 B6, .int .i64 C, .int .i64 D, .int .i64 Exp]) (vs := [.int .i64 A, .int .i64 B6, .int .i64 C, .int .i64 D, .int .i64 Exp]) k_ag_91 k_sz_91_5 rfl (hf2.get 10 7 rfl) (hS11.cf (i := 6) rfl) rfl rfl) ?_
        refine ss 71 rfl rfl (Ys_bslice (s := 5) (len := 1) (vs := [(0, .agg #[.int .i64 A, .int .i64 B6, .int .i64 C, .int .i64 D, .int .i64 Exp])]) (cs := [.int .i64 A, .int .i64 B6, .int .i64 C, .int .i64 D, .int .i64 Exp]) (zs := [.int .i64 0, .int .i64 0, .int .i64 0, .int .i64 0, .int .i64 0]) (m := 5) hS11 k_sl_27_91 k_sz_91_5 k_zc_91 rfl (mpc rfl mpn) rfl rfl rfl rfl rfl rfl) ?_
        rintro _ w_13 ⟨b6, rfl, hS22⟩
        have hS22 : ST w0 (bl [⟨B, 126, [.bool c.bad], 1⟩]) _ [⟨B, 126, [.bool bad2], 1⟩, ⟨some ⟨b1, 0, none⟩, 62, [.int .i64 a.Rows, .int .i64 a.Cols, .slice B1 a.Cells.length c1], 3⟩, ⟨some ⟨b2, 0, none⟩, 62, [.int .i64 b.Rows, .int .i64 b.Cols, .slice B2 b.Cells.length c2], 3⟩, ⟨some ⟨b3, 0, none⟩, 62, [.int .i64 0, .int .i64 0, .slice none 0 0], 3⟩, ⟨some ⟨b4, 0, none⟩, 62, [.int .i64 a.Rows, .int .i64 b.Cols, .slice B5 Cells1.length c5], 3⟩, ⟨B5, 91, (Cells1.flatMap enc_Dyadic), c5 * 5⟩, ⟨some ⟨b5, 0, none⟩, 91, [.int .i64 A, .int .i64 B6, .int .i64 C, .int .i64 D, .int .i64 Exp], 5⟩, ⟨some ⟨b6, 0, none⟩, 91, ([(TDyadic.mk (TRing.mk A B6 C D) Exp)].flatMap enc_Dyadic), 1 * 5⟩] [⟨B1, (a.Cells.flatMap enc_Dyadic)⟩, ⟨B2, (b.Cells.flatMap enc_Dyadic)⟩] := hS22
        obtain ⟨hap, hF3⟩ := chk_inv hF3
        refine ss 72 rfl rfl (Ys_append (s := 5) (by' := 40) (i := 5) (nn := Cells1.length) (c := c5) (k := 1) (len := (Cells1 ++ [(TDyadic.mk (TRing.mk A B6 C D) Exp)]).length) (B := B5) (xs := ([(TDyadic.mk (TRing.mk A B6 C D) Exp)].flatMap enc_Dyadic)) (cs' := ((Cells1 ++ [(TDyadic.mk (TRing.mk A B6 C D) Exp)]).flatMap enc_Dyadic)) hS22 k_sl_27_91 k_sz_91_5 k_by_91_40 k_zero_91 rfl (by decide) rfl rfl rfl rfl (fm_lenn (l := Cells1) enc_Dyadic_len rfl) rfl (hS22.cf (i := 7) rfl) (fm_lenn (l := [(TDyadic.mk (TRing.mk A B6 C D) Exp)]) enc_Dyadic_len rfl) (fm_one' (enc := enc_Dyadic) enc_Dyadic_one [(TDyadic.mk (TRing.mk A B6 C D) Exp)]) (by have := hap; omega) (by have := hap; simp only [maxLen]; omega) (fm_app _ _) (app_len (l := Cells1) (l' := [(TDyadic.mk (TRing.mk A B6 C D) Exp)]) rfl rfl)) ?_
        rintro _ w_14 ⟨B7, c6, rfl, hS23⟩
        have hS23 : ST w0 (bl [⟨B, 126, [.bool c.bad], 1⟩]) _ [⟨B, 126, [.bool bad2], 1⟩, ⟨some ⟨b1, 0, none⟩, 62, [.int .i64 a.Rows, .int .i64 a.Cols, .slice B1 a.Cells.length c1], 3⟩, ⟨some ⟨b2, 0, none⟩, 62, [.int .i64 b.Rows, .int .i64 b.Cols, .slice B2 b.Cells.length c2], 3⟩, ⟨some ⟨b3, 0, none⟩, 62, [.int .i64 0, .int .i64 0, .slice none 0 0], 3⟩, ⟨some ⟨b4, 0, none⟩, 62, [.int .i64 a.Rows, .int .i64 b.Cols, .slice B5 Cells1.length c5], 3⟩, ⟨B7, 91, ((Cells1 ++ [(TDyadic.mk (TRing.mk A B6 C D) Exp)]).flatMap enc_Dyadic), c6 * 5⟩, ⟨some ⟨b5, 0, none⟩, 91, [.int .i64 A, .int .i64 B6, .int .i64 C, .int .i64 D, .int .i64 Exp], 5⟩, ⟨some ⟨b6, 0, none⟩, 91, ([(TDyadic.mk (TRing.mk A B6 C D) Exp)].flatMap enc_Dyadic), 1 * 5⟩] [⟨B1, (a.Cells.flatMap enc_Dyadic)⟩, ⟨B2, (b.Cells.flatMap enc_Dyadic)⟩] := hS23
        refine sq 73 rfl rfl (Y_fieldAddr (B := some ⟨b4, 0, none⟩) (i := 0) (s := 0) k_fd_62_2_2_27 k_sz_27_1 rfl (hf2.get 7 4 rfl)) ?_
        refine ss0 rfl rfl (Ys_store (i := 4) (s := 1) (B := some ⟨b4, 0, none⟩) (T' := 62) (v := .slice B7 ((Cells1 ++ [(TDyadic.mk (TRing.mk A B6 C D) Exp)]).length) c6) (vs := [.slice B7 ((Cells1 ++ [(TDyadic.mk (TRing.mk A B6 C D) Exp)]).length) c6]) (k := 2) (cs' := [.int .i64 a.Rows, .int .i64 b.Cols, .slice B7 ((Cells1 ++ [(TDyadic.mk (TRing.mk A B6 C D) Exp)]).length) c6]) hS23 k_sz_27_1 rfl rfl rfl rfl rfl rfl rfl (Nat.le_of_ble_eq_true rfl) rfl rfl) ?_
        rintro _ w_15 ⟨rfl, hS24⟩
        have hS24 : ST w0 (bl [⟨B, 126, [.bool c.bad], 1⟩]) _ [⟨B, 126, [.bool bad2], 1⟩, ⟨some ⟨b1, 0, none⟩, 62, [.int .i64 a.Rows, .int .i64 a.Cols, .slice B1 a.Cells.length c1], 3⟩, ⟨some ⟨b2, 0, none⟩, 62, [.int .i64 b.Rows, .int .i64 b.Cols, .slice B2 b.Cells.length c2], 3⟩, ⟨some ⟨b3, 0, none⟩, 62, [.int .i64 0, .int .i64 0, .slice none 0 0], 3⟩, ⟨some ⟨b4, 0, none⟩, 62, [.int .i64 a.Rows, .int .i64 b.Cols, .slice B7 ((Cells1 ++ [(TDyadic.mk (TRing.mk A B6 C D) Exp)]).length) c6], 3⟩, ⟨B7, 91, ((Cells1 ++ [(TDyadic.mk (TRing.mk A B6 C D) Exp)]).flatMap enc_Dyadic), c6 * 5⟩, ⟨some ⟨b5, 0, none⟩, 91, [.int .i64 A, .int .i64 B6, .int .i64 C, .int .i64 D, .int .i64 Exp], 5⟩, ⟨some ⟨b6, 0, none⟩, 91, ([(TDyadic.mk (TRing.mk A B6 C D) Exp)].flatMap enc_Dyadic), 1 * 5⟩] [⟨B1, (a.Cells.flatMap enc_Dyadic)⟩, ⟨B2, (b.Cells.flatMap enc_Dyadic)⟩] := hS24
        refine rw_nil ?_
        refine cw_region ?_
        refine sq 27 rfl rfl (Y_move (v := .int .i64 (j : Int)) rfl (hf2.get 9 6 rfl)) ?_
        refine sq 28 rfl rfl (Y_add (k := .i64) (a := (j : Int)) (b := 1) rfl rfl rfl) ?_
        refine sq 9 rfl rfl (Y_assign (v := .int .i64 (IntKind.i64.wrap ((j : Int) + 1))) rfl rfl) ?_
        refine rw_nil ?_
        obtain rfl := some_inj hF3
        exact ⟨k_3, Nat.lt_succ_self _, j + 1, bad2, (Cells1 ++ [(TDyadic.mk (TRing.mk A B6 C D) Exp)]), B7, c6, (FF.cons (hf2.get 0 0 rfl) (FF.cons (hf2.get 4 1 rfl) (FF.cons (hf2.get 5 2 rfl) (FF.cons (hf2.get 6 3 rfl) (FF.cons (hf2.get 7 4 rfl) (FF.cons (hf2.get 8 5 rfl) (FF.cons (congrArg (Value.int .i64) (wr_succ hlt3 hN1)) FF.nil))))))), (hS24.sel [0, 1, 2, 3, 4, 5] rfl rfl), (by omega), hL3⟩
    · skip
      obtain rfl : k_2 = 0 := by have h := of_decide_eq_false hlt2; omega
      refine cw_exit rfl ?_
      obtain rfl := some_inj hL2
      refine cw_region ?_
      refine sq 21 rfl rfl (Y_move (v := .int .i64 (i1 : Int)) rfl (hf1.get 8 5 rfl)) ?_
      refine sq 22 rfl rfl (Y_add (k := .i64) (a := (i1 : Int)) (b := 1) rfl rfl rfl) ?_
      refine sq 8 rfl rfl (Y_assign (v := .int .i64 (IntKind.i64.wrap ((i1 : Int) + 1))) rfl rfl) ?_
      refine rw_nil ?_
      obtain rfl := some_inj hF2
      exact ⟨k_1, Nat.lt_succ_self _, i1 + 1, bad1, Cells1, B5, c5, (FF.cons (hf1.get 0 0 rfl) (FF.cons (hf1.get 4 1 rfl) (FF.cons (hf1.get 5 2 rfl) (FF.cons (hf1.get 6 3 rfl) (FF.cons (hf1.get 7 4 rfl) (FF.cons (congrArg (Value.int .i64) (wr_succ hlt1 hN)) FF.nil)))))), (hS8.sel [0, 1, 2, 3, 4, 5] rfl rfl), (by omega), hL1⟩
  · skip
    obtain rfl : k_ = 0 := by have h := of_decide_eq_false hlt; omega
    refine cw_exit rfl ?_
    obtain rfl := some_inj hL
    refine cw_seq ?_
    refine cw_region ?_
    refine sq 74 rfl rfl (Y_loadA (B := some ⟨b4, 0, none⟩) (i := 0) (cs := [.int .i64 a.Rows, .int .i64 b.Cols, .slice B4 Cells.length c4]) (vs := [.int .i64 a.Rows, .int .i64 b.Cols, .slice B4 Cells.length c4]) k_ag_62 k_sz_62_3 rfl (hf.get 7 4 rfl) (hS6.cf (i := 4) rfl) rfl rfl) ?_
    refine ss0 rfl rfl (Ys_store (i := 3) (s := 3) (B := some ⟨b3, 0, none⟩) (T' := 62) (v := .agg #[.int .i64 a.Rows, .int .i64 b.Cols, .slice B4 Cells.length c4]) (vs := [.int .i64 a.Rows, .int .i64 b.Cols, .slice B4 Cells.length c4]) (k := 0) (cs' := [.int .i64 a.Rows, .int .i64 b.Cols, .slice B4 Cells.length c4]) hS6 k_sz_62_3 rfl (hf.get 6 3 rfl) rfl rfl rfl rfl rfl (Nat.le_of_ble_eq_true rfl) rfl rfl) ?_
    rintro _ w_16 ⟨rfl, hS25⟩
    have hS25 : ST w0 (bl [⟨B, 126, [.bool c.bad], 1⟩]) _ [⟨B, 126, [.bool bad], 1⟩, ⟨some ⟨b1, 0, none⟩, 62, [.int .i64 a.Rows, .int .i64 a.Cols, .slice B1 a.Cells.length c1], 3⟩, ⟨some ⟨b2, 0, none⟩, 62, [.int .i64 b.Rows, .int .i64 b.Cols, .slice B2 b.Cells.length c2], 3⟩, ⟨some ⟨b3, 0, none⟩, 62, [.int .i64 a.Rows, .int .i64 b.Cols, .slice B4 Cells.length c4], 3⟩, ⟨some ⟨b4, 0, none⟩, 62, [.int .i64 a.Rows, .int .i64 b.Cols, .slice B4 Cells.length c4], 3⟩, ⟨B4, 91, (Cells.flatMap enc_Dyadic), c4 * 5⟩] [⟨B1, (a.Cells.flatMap enc_Dyadic)⟩, ⟨B2, (b.Cells.flatMap enc_Dyadic)⟩] := hS25
    refine rw_nil ?_
    refine cw_ret ?_
    obtain ⟨rfl, rfl⟩ := pr2 (some_inj hF1)
    exact ret1 Try.results95 (v1 := .agg #[.int .i64 a.Rows, .int .i64 b.Cols, .slice B4 Cells.length c4]) (resAt_cellA (B := some ⟨b3, 0, none⟩) (i := 0) (cs := [.int .i64 a.Rows, .int .i64 b.Cols, .slice B4 Cells.length c4]) (vs := [.int .i64 a.Rows, .int .i64 b.Cols, .slice B4 Cells.length c4]) (hf.get 6 3 rfl) k_ag_62 k_sz_62_3 (hS25.cf (i := 3) rfl) rfl rfl) ⟨B4, c4, rfl, (ST.subR (R' := []) (hS25.sel [0, 5] rfl rfl) (fun _ h => by cases h))⟩

theorem c_spec_l1Conj (x : TRing)  (w0 : World)  (hS : ST w0 [] w0 [] []) {r_ : TRing} (hF : F_spec_l1Conj x = some r_) :
    CV Try.prog 199 #[.agg #[.int .i64 x.A, .int .i64 x.B, .int .i64 x.C, .int .i64 x.D]] w0 (fun v w' => v = .agg #[.int .i64 r_.A, .int .i64 r_.B, .int .i64 r_.C, .int .i64 r_.D] ∧ ST w0 [] w' [] []) := by
  unfold F_spec_l1Conj at hF
  refine cv_of_cw 15 Try.func199 rfl Try.ntmps199 rfl ?_
  refine cw_seq ?_
  refine cw_region ?_
  refine ss 1 rfl rfl (Ys_box (T := 89) (v := .agg #[.int .i64 x.A, .int .i64 x.B, .int .i64 x.C, .int .i64 x.D]) (cs := [.int .i64 x.A, .int .i64 x.B, .int .i64 x.C, .int .i64 x.D]) (m := 4) hS rfl rfl rfl rfl) ?_
  rintro _ w_ ⟨b, rfl, hS1⟩
  refine ss 2 rfl rfl (Ys_alloc (T := 89) (cs := [.int .i64 0, .int .i64 0, .int .i64 0, .int .i64 0]) (m := 4) hS1 k_zero_89 rfl rfl rfl) ?_
  rintro _ w_1 ⟨b1, rfl, hS2⟩
  have hS2 : ST w0 [] _ [⟨some ⟨b, 0, none⟩, 89, [.int .i64 x.A, .int .i64 x.B, .int .i64 x.C, .int .i64 x.D], 4⟩, ⟨some ⟨b1, 0, none⟩, 89, [.int .i64 0, .int .i64 0, .int .i64 0, .int .i64 0], 4⟩] [] := hS2
  refine rw_nil ?_
  refine cw_seq ?_
  refine cw_region ?_
  refine sq 3 rfl rfl (Y_fieldAddr (B := some ⟨b, 0, none⟩) (i := 0) (s := 0) k_fd_89_0_0_3 k_sz_3_1 rfl rfl) ?_
  refine sq 4 rfl rfl (Y_load1 (B := some ⟨b, 0, none⟩) (i := 0) (cs := [.int .i64 x.A, .int .i64 x.B, .int .i64 x.C, .int .i64 x.D]) (v := .int .i64 x.A) k_sc_3 rfl rfl (hS2.cf (i := 0) rfl) rfl) ?_
  refine sq 5 rfl rfl (Y_fieldAddr (B := some ⟨b, 0, none⟩) (i := 0) (s := 0) k_fd_89_3_3_3 k_sz_3_1 rfl rfl) ?_
  refine sq 6 rfl rfl (Y_load1 (B := some ⟨b, 0, none⟩) (i := 3) (cs := [.int .i64 x.A, .int .i64 x.B, .int .i64 x.C, .int .i64 x.D]) (v := .int .i64 x.D) k_sc_3 rfl rfl (hS2.cf (i := 0) rfl) rfl) ?_
  refine sq 7 rfl rfl (Y_neg (k := .i64) (a := x.D) rfl rfl) ?_
  refine sq 8 rfl rfl (Y_fieldAddr (B := some ⟨b, 0, none⟩) (i := 0) (s := 0) k_fd_89_2_2_3 k_sz_3_1 rfl rfl) ?_
  refine sq 9 rfl rfl (Y_load1 (B := some ⟨b, 0, none⟩) (i := 2) (cs := [.int .i64 x.A, .int .i64 x.B, .int .i64 x.C, .int .i64 x.D]) (v := .int .i64 x.C) k_sc_3 rfl rfl (hS2.cf (i := 0) rfl) rfl) ?_
  refine sq 10 rfl rfl (Y_neg (k := .i64) (a := x.C) rfl rfl) ?_
  refine sq 11 rfl rfl (Y_fieldAddr (B := some ⟨b, 0, none⟩) (i := 0) (s := 0) k_fd_89_1_1_3 k_sz_3_1 rfl rfl) ?_
  refine sq 12 rfl rfl (Y_load1 (B := some ⟨b, 0, none⟩) (i := 1) (cs := [.int .i64 x.A, .int .i64 x.B, .int .i64 x.C, .int .i64 x.D]) (v := .int .i64 x.B) k_sc_3 rfl rfl (hS2.cf (i := 0) rfl) rfl) ?_
  refine sq 13 rfl rfl (Y_neg (k := .i64) (a := x.B) rfl rfl) ?_
  refine sq 14 rfl rfl (Y_buildS (zs := [.int .i64 0, .int .i64 0, .int .i64 0, .int .i64 0]) (vs := [(0, .int .i64 x.A), (1, .int .i64 (IntKind.i64.wrap (-x.D))), (2, .int .i64 (IntKind.i64.wrap (-x.C))), (3, .int .i64 (IntKind.i64.wrap (-x.B)))]) (cs := [.int .i64 x.A, .int .i64 (IntKind.i64.wrap (-x.D)), .int .i64 (IntKind.i64.wrap (-x.C)), .int .i64 (IntKind.i64.wrap (-x.B))]) k_pl_89 k_zero_89 rfl (mpc rfl (mpc rfl (mpc rfl (mpc rfl mpn)))) rfl) ?_
  refine ss0 rfl rfl (Ys_store (i := 1) (s := 4) (B := some ⟨b1, 0, none⟩) (T' := 89) (v := .agg #[.int .i64 x.A, .int .i64 (IntKind.i64.wrap (-x.D)), .int .i64 (IntKind.i64.wrap (-x.C)), .int .i64 (IntKind.i64.wrap (-x.B))]) (vs := [.int .i64 x.A, .int .i64 (IntKind.i64.wrap (-x.D)), .int .i64 (IntKind.i64.wrap (-x.C)), .int .i64 (IntKind.i64.wrap (-x.B))]) (k := 0) (cs' := [.int .i64 x.A, .int .i64 (IntKind.i64.wrap (-x.D)), .int .i64 (IntKind.i64.wrap (-x.C)), .int .i64 (IntKind.i64.wrap (-x.B))]) hS2 k_sz_89_4 rfl rfl rfl rfl rfl rfl rfl (Nat.le_of_ble_eq_true rfl) rfl rfl) ?_
  rintro _ w_2 ⟨rfl, hS3⟩
  have hS3 : ST w0 [] _ [⟨some ⟨b, 0, none⟩, 89, [.int .i64 x.A, .int .i64 x.B, .int .i64 x.C, .int .i64 x.D], 4⟩, ⟨some ⟨b1, 0, none⟩, 89, [.int .i64 x.A, .int .i64 (IntKind.i64.wrap (-x.D)), .int .i64 (IntKind.i64.wrap (-x.C)), .int .i64 (IntKind.i64.wrap (-x.B))], 4⟩] [] := hS3
  refine rw_nil ?_
  refine cw_ret ?_
  obtain rfl := some_inj hF
  exact ret1 Try.results199 (v1 := .agg #[.int .i64 x.A, .int .i64 (IntKind.i64.wrap (-x.D)), .int .i64 (IntKind.i64.wrap (-x.C)), .int .i64 (IntKind.i64.wrap (-x.B))]) (resAt_cellA (B := some ⟨b1, 0, none⟩) (i := 0) (cs := [.int .i64 x.A, .int .i64 (IntKind.i64.wrap (-x.D)), .int .i64 (IntKind.i64.wrap (-x.C)), .int .i64 (IntKind.i64.wrap (-x.B))]) (vs := [.int .i64 x.A, .int .i64 (IntKind.i64.wrap (-x.D)), .int .i64 (IntKind.i64.wrap (-x.C)), .int .i64 (IntKind.i64.wrap (-x.B))]) rfl k_ag_89 k_sz_89_4 (hS3.cf (i := 1) rfl) rfl rfl) ⟨rfl, (ST.subR (R' := []) (hS3.sel [] rfl rfl) (fun _ h => by cases h))⟩

theorem c_spec_l2Conj (x : TDyadic)  (w0 : World)  (hS : ST w0 [] w0 [] []) {r_ : TDyadic} (hF : F_spec_l2Conj x = some r_) :
    CV Try.prog 153 #[.agg #[.int .i64 x.Num.A, .int .i64 x.Num.B, .int .i64 x.Num.C, .int .i64 x.Num.D, .int .i64 x.Exp]] w0 (fun v w' => v = .agg #[.int .i64 r_.Num.A, .int .i64 r_.Num.B, .int .i64 r_.Num.C, .int .i64 r_.Num.D, .int .i64 r_.Exp] ∧ ST w0 [] w' [] []) := by
  unfold F_spec_l2Conj at hF
  refine cv_of_cw 9 Try.func153 rfl Try.ntmps153 rfl ?_
  refine cw_seq ?_
  refine cw_region ?_
  refine ss 1 rfl rfl (Ys_box (T := 91) (v := .agg #[.int .i64 x.Num.A, .int .i64 x.Num.B, .int .i64 x.Num.C, .int .i64 x.Num.D, .int .i64 x.Exp]) (cs := [.int .i64 x.Num.A, .int .i64 x.Num.B, .int .i64 x.Num.C, .int .i64 x.Num.D, .int .i64 x.Exp]) (m := 5) hS rfl rfl rfl rfl) ?_
  rintro _ w_ ⟨b, rfl, hS1⟩
  refine ss 2 rfl rfl (Ys_alloc (T := 91) (cs := [.int .i64 0, .int .i64 0, .int .i64 0, .int .i64 0, .int .i64 0]) (m := 5) hS1 k_zero_91 rfl rfl rfl) ?_
  rintro _ w_1 ⟨b1, rfl, hS2⟩
  have hS2 : ST w0 [] _ [⟨some ⟨b, 0, none⟩, 91, [.int .i64 x.Num.A, .int .i64 x.Num.B, .int .i64 x.Num.C, .int .i64 x.Num.D, .int .i64 x.Exp], 5⟩, ⟨some ⟨b1, 0, none⟩, 91, [.int .i64 0, .int .i64 0, .int .i64 0, .int .i64 0, .int .i64 0], 5⟩] [] := hS2
  refine rw_nil ?_
  refine cw_seq ?_
  obtain ⟨r_1, hc, hF⟩ := bind_inv hF
  refine ra_start (ST.sel hS2 [0] rfl rfl).fn (by kernel_rfl) ?_
  have hS4 := hS2.drew
  refine ra_q 0 3 (v := pt (some ⟨b, 0, none⟩) 0) rfl rfl rfl (by kernel_rfl) (by kernel_rfl) (by kernel_rfl) (ST.sel hS4 [0] rfl rfl) (fun w' hw' => (Y_fieldAddr (B := some ⟨b, 0, none⟩) (i := 0) (s := 3) k_fd_91_0_0_89 k_sz_89_4 rfl rfl)) ?_
  refine ra_q 1 4 (v := .agg #[.int .i64 x.Num.A, .int .i64 x.Num.B, .int .i64 x.Num.C, .int .i64 x.Num.D]) rfl rfl rfl (by kernel_rfl) (by kernel_rfl) (by kernel_rfl) (ST.sel hS4 [0] rfl rfl) (fun w' hw' => (Y_loadA (B := some ⟨b, 0, none⟩) (i := 0) (cs := [.int .i64 x.Num.A, .int .i64 x.Num.B, .int .i64 x.Num.C, .int .i64 x.Num.D, .int .i64 x.Exp]) (vs := [.int .i64 x.Num.A, .int .i64 x.Num.B, .int .i64 x.Num.C, .int .i64 x.Num.D]) k_ag_89 k_sz_89_4 rfl rfl (ST.cf hw' (i := 0) rfl) rfl rfl)) ?_
  refine ra_q 3 6 (v := pt (some ⟨b, 0, none⟩) 4) rfl rfl rfl (by kernel_rfl) (by kernel_rfl) (by kernel_rfl) (ST.sel hS4 [0] rfl rfl) (fun w' hw' => (Y_fieldAddr (B := some ⟨b, 0, none⟩) (i := 0) (s := 0) k_fd_91_1_4_3 k_sz_3_1 rfl rfl)) ?_
  refine ra_q 4 7 (v := .int .i64 x.Exp) rfl rfl rfl (by kernel_rfl) (by kernel_rfl) (by kernel_rfl) (ST.sel hS4 [0] rfl rfl) (fun w' hw' => (Y_load1 (B := some ⟨b, 0, none⟩) (i := 4) (cs := [.int .i64 x.Num.A, .int .i64 x.Num.B, .int .i64 x.Num.C, .int .i64 x.Num.D, .int .i64 x.Exp]) (v := .int .i64 x.Exp) k_sc_3 rfl rfl (ST.cf hw' (i := 0) rfl) rfl)) ?_
  refine ra_all (rs := [2]) (by kernel_rfl) rfl ?_
  refine ra_c 5 (i := 2) rfl rfl rfl (Yc_func (g := 199) (vs := [.agg #[.int .i64 x.Num.A, .int .i64 x.Num.B, .int .i64 x.Num.C, .int .i64 x.Num.D]]) k_call_199 rfl (mc rfl mn) (c_spec_l1Conj x.Num _  (hS4.inn0 [] rfl) hc)) ?_ ?_
  · rintro _ w_2 ⟨rfl, hd⟩
    have hS5 := hS4.out00 hd
    have hS5 : ST w0 [] _ [⟨some ⟨b, 0, none⟩, 91, [.int .i64 x.Num.A, .int .i64 x.Num.B, .int .i64 x.Num.C, .int .i64 x.Num.D, .int .i64 x.Exp], 5⟩, ⟨some ⟨b1, 0, none⟩, 91, [.int .i64 0, .int .i64 0, .int .i64 0, .int .i64 0, .int .i64 0], 5⟩] [] := hS5
    refine ⟨(ST.sel hS5 [0] rfl rfl), ?_⟩
    refine ra_q 5 8 (v := .agg #[.int .i64 r_1.A, .int .i64 r_1.B, .int .i64 r_1.C, .int .i64 r_1.D, .int .i64 x.Exp]) rfl rfl rfl (by kernel_rfl) (by kernel_rfl) (by kernel_rfl) (ST.sel hS5 [0] rfl rfl) (fun w' hw' => (Y_buildS (zs := [.int .i64 0, .int .i64 0, .int .i64 0, .int .i64 0, .int .i64 0]) (vs := [(0, .agg #[.int .i64 r_1.A, .int .i64 r_1.B, .int .i64 r_1.C, .int .i64 r_1.D]), (1, .int .i64 x.Exp)]) (cs := [.int .i64 r_1.A, .int .i64 r_1.B, .int .i64 r_1.C, .int .i64 r_1.D, .int .i64 x.Exp]) k_pl_91 k_zero_91 rfl (mpc rfl (mpc rfl mpn)) rfl)) ?_
    refine ra_all (rs := [6]) (by kernel_rfl) rfl ?_
    refine ra_s0 (i := 6) rfl rfl rfl (Ys_store (i := 1) (s := 5) (B := some ⟨b1, 0, none⟩) (T' := 91) (v := .agg #[.int .i64 r_1.A, .int .i64 r_1.B, .int .i64 r_1.C, .int .i64 r_1.D, .int .i64 x.Exp]) (vs := [.int .i64 r_1.A, .int .i64 r_1.B, .int .i64 r_1.C, .int .i64 r_1.D, .int .i64 x.Exp]) (k := 0) (cs' := [.int .i64 r_1.A, .int .i64 r_1.B, .int .i64 r_1.C, .int .i64 r_1.D, .int .i64 x.Exp]) hS5 k_sz_91_5 rfl rfl rfl rfl rfl rfl rfl (Nat.le_of_ble_eq_true rfl) rfl rfl) ?_ ?_
    · rintro _ w_3 ⟨rfl, hS6⟩
      have hS6 : ST w0 [] _ [⟨some ⟨b, 0, none⟩, 91, [.int .i64 x.Num.A, .int .i64 x.Num.B, .int .i64 x.Num.C, .int .i64 x.Num.D, .int .i64 x.Exp], 5⟩, ⟨some ⟨b1, 0, none⟩, 91, [.int .i64 r_1.A, .int .i64 r_1.B, .int .i64 r_1.C, .int .i64 r_1.D, .int .i64 x.Exp], 5⟩] [] := hS6
      refine ⟨(ST.sel hS6 [0] rfl rfl), ?_⟩
      refine ra_done (by kernel_rfl) ?_
      refine cw_ret ?_
      obtain rfl := some_inj hF
      exact ret1 Try.results153 (v1 := .agg #[.int .i64 r_1.A, .int .i64 r_1.B, .int .i64 r_1.C, .int .i64 r_1.D, .int .i64 x.Exp]) (resAt_cellA (B := some ⟨b1, 0, none⟩) (i := 0) (cs := [.int .i64 r_1.A, .int .i64 r_1.B, .int .i64 r_1.C, .int .i64 r_1.D, .int .i64 x.Exp]) (vs := [.int .i64 r_1.A, .int .i64 r_1.B, .int .i64 r_1.C, .int .i64 r_1.D, .int .i64 x.Exp]) rfl k_ag_91 k_sz_91_5 (hS6.cf (i := 1) rfl) rfl rfl) ⟨rfl, (ST.subR (R' := []) (hS6.sel [] rfl rfl) (fun _ h => by cases h))⟩
    exact allR_nil
  exact allR_nil

theorem c_spec_l3Adj (m : TMatrix) (B : Option Addr) (c n : Nat) (w0 : World) (hn : m.Cells.length = n) (hS : ST w0 [] w0 [] [⟨B, (m.Cells.flatMap enc_Dyadic)⟩]) {r_ : TMatrix} (hF : F_spec_l3Adj m = some r_) :
    CV Try.prog 96 #[.agg #[.int .i64 m.Rows, .int .i64 m.Cols, .slice B n c]] w0 (fun v w' => ∃ (B1 : Option Addr) (c1 : Nat), v = .agg #[.int .i64 r_.Rows, .int .i64 r_.Cols, .slice B1 r_.Cells.length c1] ∧ ST w0 [] w' [⟨B1, 91, (r_.Cells.flatMap enc_Dyadic), c1 * 5⟩] []) := by
  subst hn
  unfold F_spec_l3Adj at hF
  refine cv_of_cw 40 Try.func96 rfl Try.ntmps96 rfl ?_
  refine cw_seq ?_
  refine cw_region ?_
  refine ss 1 rfl rfl (Ys_box (T := 62) (v := .agg #[.int .i64 m.Rows, .int .i64 m.Cols, .slice B m.Cells.length c]) (cs := [.int .i64 m.Rows, .int .i64 m.Cols, .slice B m.Cells.length c]) (m := 3) hS rfl rfl rfl rfl) ?_
  rintro _ w_ ⟨b, rfl, hS1⟩
  refine ss 2 rfl rfl (Ys_alloc (T := 62) (cs := [.int .i64 0, .int .i64 0, .slice none 0 0]) (m := 3) hS1 k_zero_62 rfl rfl rfl) ?_
  rintro _ w_1 ⟨b1, rfl, hS2⟩
  have hS2 : ST w0 [] _ [⟨some ⟨b, 0, none⟩, 62, [.int .i64 m.Rows, .int .i64 m.Cols, .slice B m.Cells.length c], 3⟩, ⟨some ⟨b1, 0, none⟩, 62, [.int .i64 0, .int .i64 0, .slice none 0 0], 3⟩] [⟨B, (m.Cells.flatMap enc_Dyadic)⟩] := hS2
  refine rw_nil ?_
  refine cw_seq ?_
  refine cw_region ?_
  refine sq 6 rfl rfl (Y_fieldAddr (B := some ⟨b, 0, none⟩) (i := 0) (s := 0) k_fd_62_1_1_3 k_sz_3_1 rfl rfl) ?_
  refine sq 7 rfl rfl (Y_load1 (B := some ⟨b, 0, none⟩) (i := 1) (cs := [.int .i64 m.Rows, .int .i64 m.Cols, .slice B m.Cells.length c]) (v := .int .i64 m.Cols) k_sc_3 rfl rfl (hS2.cf (i := 0) rfl) rfl) ?_
  refine sq 8 rfl rfl (Y_fieldAddr (B := some ⟨b, 0, none⟩) (i := 0) (s := 0) k_fd_62_0_0_3 k_sz_3_1 rfl rfl) ?_
  refine sq 9 rfl rfl (Y_load1 (B := some ⟨b, 0, none⟩) (i := 0) (cs := [.int .i64 m.Rows, .int .i64 m.Cols, .slice B m.Cells.length c]) (v := .int .i64 m.Rows) k_sc_3 rfl rfl (hS2.cf (i := 0) rfl) rfl) ?_
  refine sq 10 rfl rfl (Y_buildS (zs := [.int .i64 0, .int .i64 0, .slice none 0 0]) (vs := [(0, .int .i64 m.Cols), (1, .int .i64 m.Rows)]) (cs := [.int .i64 m.Cols, .int .i64 m.Rows, .slice none 0 0]) k_pl_62 k_zero_62 rfl (mpc rfl (mpc rfl mpn)) rfl) ?_
  refine ss 3 rfl rfl (Ys_alloc (T := 62) (cs := [.int .i64 0, .int .i64 0, .slice none 0 0]) (m := 3) hS2 k_zero_62 rfl rfl rfl) ?_
  rintro _ w_2 ⟨b2, rfl, hS3⟩
  have hS3 : ST w0 [] _ [⟨some ⟨b, 0, none⟩, 62, [.int .i64 m.Rows, .int .i64 m.Cols, .slice B m.Cells.length c], 3⟩, ⟨some ⟨b1, 0, none⟩, 62, [.int .i64 0, .int .i64 0, .slice none 0 0], 3⟩, ⟨some ⟨b2, 0, none⟩, 62, [.int .i64 0, .int .i64 0, .slice none 0 0], 3⟩] [⟨B, (m.Cells.flatMap enc_Dyadic)⟩] := hS3
  refine ss0 rfl rfl (Ys_store (i := 2) (s := 3) (B := some ⟨b2, 0, none⟩) (T' := 62) (v := .agg #[.int .i64 m.Cols, .int .i64 m.Rows, .slice none 0 0]) (vs := [.int .i64 m.Cols, .int .i64 m.Rows, .slice none 0 0]) (k := 0) (cs' := [.int .i64 m.Cols, .int .i64 m.Rows, .slice none 0 0]) hS3 k_sz_62_3 rfl rfl rfl rfl rfl rfl rfl (Nat.le_of_ble_eq_true rfl) rfl rfl) ?_
  rintro _ w_3 ⟨rfl, hS4⟩
  have hS4 : ST w0 [] _ [⟨some ⟨b, 0, none⟩, 62, [.int .i64 m.Rows, .int .i64 m.Cols, .slice B m.Cells.length c], 3⟩, ⟨some ⟨b1, 0, none⟩, 62, [.int .i64 0, .int .i64 0, .slice none 0 0], 3⟩, ⟨some ⟨b2, 0, none⟩, 62, [.int .i64 m.Cols, .int .i64 m.Rows, .slice none 0 0], 3⟩] [⟨B, (m.Cells.flatMap enc_Dyadic)⟩] := hS4
  refine rw_nil ?_
  refine cw_seq ?_
  refine cw_seq ?_
  refine cw_region ?_
  refine sq 4 rfl rfl (Y_assign (v := .int .i64 0) rfl rfl) ?_
  refine rw_nil ?_
  obtain ⟨hN, hF⟩ := chk_inv hF
  obtain ⟨z, hz, hF1⟩ := bind_inv hF
  have hS6 := hS4.addNil 91
  refine cw_block ?_
  refine cw_loop (fun k f w => ∃ (j : Nat) (Cells : List TDyadic) (B2 : Option Addr) (c2 : Nat), FF f [(1, pt (some ⟨b, 0, none⟩) 0), (2, pt (some ⟨b1, 0, none⟩) 0), (3, pt (some ⟨b2, 0, none⟩) 0), (4, .int .i64 (j : Int))] ∧ ST w0 [] w [⟨some ⟨b, 0, none⟩, 62, [.int .i64 m.Rows, .int .i64 m.Cols, .slice B m.Cells.length c], 3⟩, ⟨some ⟨b1, 0, none⟩, 62, [.int .i64 0, .int .i64 0, .slice none 0 0], 3⟩, ⟨some ⟨b2, 0, none⟩, 62, [.int .i64 m.Cols, .int .i64 m.Rows, .slice B2 Cells.length c2], 3⟩, ⟨B2, 91, (Cells.flatMap enc_Dyadic), c2 * 5⟩] [⟨B, (m.Cells.flatMap enc_Dyadic)⟩] ∧ j + k = m.Cols.toNat ∧ forN (F_spec_l3Adj_l1 m) k j Cells = some z) m.Cols.toNat ⟨0, [], none, 0, (FF.cons rfl (FF.cons rfl (FF.cons rfl (FF.cons rfl FF.nil)))), (hS6.sel [0, 1, 2, 3] rfl rfl), Nat.zero_add _, hz⟩ ?_
  rintro k_ f w ⟨j, Cells, B2, c2, hf, hS5, hik, hL⟩
  refine cw_seq ?_
  refine cw_seq ?_
  refine cw_region ?_
  refine sq 11 rfl rfl (Y_move (v := .int .i64 (j : Int)) rfl (hf.get 4 3 rfl)) ?_
  refine sq 12 rfl rfl (Y_fieldAddr (B := some ⟨b, 0, none⟩) (i := 0) (s := 0) k_fd_62_1_1_3 k_sz_3_1 rfl (hf.get 1 0 rfl)) ?_
  refine sq 13 rfl rfl (Y_load1 (B := some ⟨b, 0, none⟩) (i := 1) (cs := [.int .i64 m.Rows, .int .i64 m.Cols, .slice B m.Cells.length c]) (v := .int .i64 m.Cols) k_sc_3 rfl rfl (hS5.cf (i := 0) rfl) rfl) ?_
  refine sq 14 rfl rfl (Y_lt (k := .i64) (a := (j : Int)) (b := m.Cols) rfl rfl rfl) ?_
  refine rw_nil ?_
  refine cw_cond (b := (decide ((j : Int) < m.Cols))) rfl (fun hlt => ?_) (fun hlt => ?_)
  · skip
    have hlt1 : j < m.Cols.toNat := by have h := of_decide_eq_true hlt; omega
    obtain ⟨k_1, rfl⟩ : ∃ k2, k_ = k2 + 1 := ⟨k_ - 1, by omega⟩
    obtain ⟨y, hb, hL1⟩ := forN_go hL
    unfold F_spec_l3Adj_l1 at hb
    refine cw_skip ?_
    refine cw_seq ?_
    refine cw_block ?_
    refine cw_seq ?_
    refine cw_region ?_
    refine sq 5 rfl rfl (Y_assign (v := .int .i64 0) rfl rfl) ?_
    refine rw_nil ?_
    obtain ⟨hN1, hb⟩ := chk_inv hb
    obtain ⟨z1, hz1, hF2⟩ := bind_inv hb
    refine cw_block ?_
    refine cw_loop (fun k f w => ∃ (i2 : Nat) (Cells1 : List TDyadic) (B3 : Option Addr) (c3 : Nat), FF f [(1, pt (some ⟨b, 0, none⟩) 0), (2, pt (some ⟨b1, 0, none⟩) 0), (3, pt (some ⟨b2, 0, none⟩) 0), (4, .int .i64 (j : Int)), (5, .int .i64 (i2 : Int))] ∧ ST w0 [] w [⟨some ⟨b, 0, none⟩, 62, [.int .i64 m.Rows, .int .i64 m.Cols, .slice B m.Cells.length c], 3⟩, ⟨some ⟨b1, 0, none⟩, 62, [.int .i64 0, .int .i64 0, .slice none 0 0], 3⟩, ⟨some ⟨b2, 0, none⟩, 62, [.int .i64 m.Cols, .int .i64 m.Rows, .slice B3 Cells1.length c3], 3⟩, ⟨B3, 91, (Cells1.flatMap enc_Dyadic), c3 * 5⟩] [⟨B, (m.Cells.flatMap enc_Dyadic)⟩] ∧ i2 + k = m.Rows.toNat ∧ forN (F_spec_l3Adj_l2 m Cells j) k i2 Cells1 = some z1) m.Rows.toNat ⟨0, Cells, B2, c2, (FF.cons (hf.get 1 0 rfl) (FF.cons (hf.get 2 1 rfl) (FF.cons (hf.get 3 2 rfl) (FF.cons (hf.get 4 3 rfl) (FF.cons rfl FF.nil))))), (hS5.sel [0, 1, 2, 3] rfl rfl), Nat.zero_add _, hz1⟩ ?_
    rintro k_2 f w ⟨i2, Cells1, B3, c3, hf1, hS7, hik1, hL2⟩
    refine cw_seq ?_
    refine cw_seq ?_
    refine cw_region ?_
    refine sq 17 rfl rfl (Y_move (v := .int .i64 (i2 : Int)) rfl (hf1.get 5 4 rfl)) ?_
    refine sq 18 rfl rfl (Y_fieldAddr (B := some ⟨b, 0, none⟩) (i := 0) (s := 0) k_fd_62_0_0_3 k_sz_3_1 rfl (hf1.get 1 0 rfl)) ?_
    refine sq 19 rfl rfl (Y_load1 (B := some ⟨b, 0, none⟩) (i := 0) (cs := [.int .i64 m.Rows, .int .i64 m.Cols, .slice B m.Cells.length c]) (v := .int .i64 m.Rows) k_sc_3 rfl rfl (hS7.cf (i := 0) rfl) rfl) ?_
    refine sq 20 rfl rfl (Y_lt (k := .i64) (a := (i2 : Int)) (b := m.Rows) rfl rfl rfl) ?_
    refine rw_nil ?_
    refine cw_cond (b := (decide ((i2 : Int) < m.Rows))) rfl (fun hlt2 => ?_) (fun hlt2 => ?_)
    · skip
      have hlt3 : i2 < m.Rows.toNat := by have h := of_decide_eq_true hlt2; omega
      obtain ⟨k_3, rfl⟩ : ∃ k2, k_2 = k2 + 1 := ⟨k_2 - 1, by omega⟩
      obtain ⟨y1, hb1, hL3⟩ := forN_go hL2
      unfold F_spec_l3Adj_l2 at hb1
      refine cw_skip ?_
      refine cw_seq ?_
      refine cw_block ?_
      obtain ⟨x, hx, hb1⟩ := bind_inv hb1
      obtain ⟨r_1, hc, hb1⟩ := bind_inv hb1
      obtain ⟨hap, hb1⟩ := chk_inv hb1
      refine cw_mid (fun f w => ∃ (B5 : Option Addr) (c5 : Nat), FF f [(1, pt (some ⟨b, 0, none⟩) 0), (2, pt (some ⟨b1, 0, none⟩) 0), (3, pt (some ⟨b2, 0, none⟩) 0), (4, .int .i64 (j : Int)), (5, .int .i64 (i2 : Int))] ∧ ST w0 [] w [⟨some ⟨b, 0, none⟩, 62, [.int .i64 m.Rows, .int .i64 m.Cols, .slice B m.Cells.length c], 3⟩, ⟨some ⟨b1, 0, none⟩, 62, [.int .i64 0, .int .i64 0, .slice none 0 0], 3⟩, ⟨some ⟨b2, 0, none⟩, 62, [.int .i64 m.Cols, .int .i64 m.Rows, .slice B5 ((Cells1 ++ [r_1]).length) c5], 3⟩, ⟨B5, 91, ((Cells1 ++ [r_1]).flatMap enc_Dyadic), c5 * 5⟩] [⟨B, (m.Cells.flatMap enc_Dyadic)⟩]) ?_ ?_
      · skip
        refine ra_start (ST.sel hS7 [0, 1] rfl rfl).fn (by kernel_rfl) ?_
        have hS10 := hS7.drew
        refine ra_q 0 23 (v := pt (some ⟨b2, 0, none⟩) 2) rfl rfl rfl (by kernel_rfl) (by kernel_rfl) (by kernel_rfl) (ST.sel hS10 [0, 1] rfl rfl) (fun w' hw' => (Y_fieldAddr (B := some ⟨b2, 0, none⟩) (i := 0) (s := 0) k_fd_62_2_2_27 k_sz_27_1 rfl (hf1.get 3 2 rfl))) ?_
        refine ra_q 2 25 (v := pt (some ⟨b, 0, none⟩) 2) rfl rfl rfl (by kernel_rfl) (by kernel_rfl) (by kernel_rfl) (ST.sel hS10 [0, 1] rfl rfl) (fun w' hw' => (Y_fieldAddr (B := some ⟨b, 0, none⟩) (i := 0) (s := 0) k_fd_62_2_2_27 k_sz_27_1 rfl (hf1.get 1 0 rfl))) ?_
        refine ra_q 3 26 (v := .slice B m.Cells.length c) rfl rfl rfl (by kernel_rfl) (by kernel_rfl) (by kernel_rfl) (ST.sel hS10 [0, 1] rfl rfl) (fun w' hw' => (Y_load1 (B := some ⟨b, 0, none⟩) (i := 2) (cs := [.int .i64 m.Rows, .int .i64 m.Cols, .slice B m.Cells.length c]) (v := .slice B m.Cells.length c) k_sc_27 rfl rfl (ST.cf hw' (i := 0) rfl) rfl)) ?_
        refine ra_q 4 27 (v := .int .i64 (i2 : Int)) rfl rfl rfl (by kernel_rfl) (by kernel_rfl) (by kernel_rfl) (ST.sel hS10 [0, 1] rfl rfl) (fun w' hw' => (Y_move (v := .int .i64 (i2 : Int)) rfl (hf1.get 5 4 rfl))) ?_
        refine ra_q 5 28 (v := pt (some ⟨b, 0, none⟩) 1) rfl rfl rfl (by kernel_rfl) (by kernel_rfl) (by kernel_rfl) (ST.sel hS10 [0, 1] rfl rfl) (fun w' hw' => (Y_fieldAddr (B := some ⟨b, 0, none⟩) (i := 0) (s := 0) k_fd_62_1_1_3 k_sz_3_1 rfl (hf1.get 1 0 rfl))) ?_
        refine ra_q 6 29 (v := .int .i64 m.Cols) rfl rfl rfl (by kernel_rfl) (by kernel_rfl) (by kernel_rfl) (ST.sel hS10 [0, 1] rfl rfl) (fun w' hw' => (Y_load1 (B := some ⟨b, 0, none⟩) (i := 1) (cs := [.int .i64 m.Rows, .int .i64 m.Cols, .slice B m.Cells.length c]) (v := .int .i64 m.Cols) k_sc_3 rfl rfl (ST.cf hw' (i := 0) rfl) rfl)) ?_
        refine ra_q 7 30 (v := .int .i64 (IntKind.i64.wrap ((i2 : Int) * m.Cols))) rfl rfl rfl (by kernel_rfl) (by kernel_rfl) (by kernel_rfl) (ST.sel hS10 [0, 1] rfl rfl) (fun w' hw' => (Y_mul (k := .i64) (a := (i2 : Int)) (b := m.Cols) rfl rfl rfl)) ?_
        refine ra_q 8 31 (v := .int .i64 (j : Int)) rfl rfl rfl (by kernel_rfl) (by kernel_rfl) (by kernel_rfl) (ST.sel hS10 [0, 1] rfl rfl) (fun w' hw' => (Y_move (v := .int .i64 (j : Int)) rfl (hf1.get 4 3 rfl))) ?_
        refine ra_q 9 32 (v := .int .i64 (IntKind.i64.wrap ((IntKind.i64.wrap ((i2 : Int) * m.Cols)) + (j : Int)))) rfl rfl rfl (by kernel_rfl) (by kernel_rfl) (by kernel_rfl) (ST.sel hS10 [0, 1] rfl rfl) (fun w' hw' => (Y_add (k := .i64) (a := (IntKind.i64.wrap ((i2 : Int) * m.Cols))) (b := (j : Int)) rfl rfl rfl)) ?_
        refine ra_q 10 33 (v := pt B ((IntKind.i64.wrap ((IntKind.i64.wrap ((i2 : Int) * m.Cols)) + (j : Int))).toNat * 5)) rfl rfl rfl (by kernel_rfl) (by kernel_rfl) (by kernel_rfl) (ST.sel hS10 [0, 1] rfl rfl) (fun w' hw' => (Y_index (B := B) (m := m.Cells.length) (c := c) (k := .i64) (i := (IntKind.i64.wrap ((IntKind.i64.wrap ((i2 : Int) * m.Cols)) + (j : Int)))) k_sl_27_91 k_sz_91_5 rfl rfl rfl (gi_isSome enc_Dyadic_len rfl (ST.rf hw' (i := 0) rfl) hx) (getI_nn hx) (getI_ltI hx rfl))) ?_
        refine ra_q 11 34 (v := .agg #[.int .i64 x.Num.A, .int .i64 x.Num.B, .int .i64 x.Num.C, .int .i64 x.Num.D, .int .i64 x.Exp]) rfl rfl rfl (by kernel_rfl) (by kernel_rfl) (by kernel_rfl) (ST.sel hS10 [0, 1] rfl rfl) (fun w' hw' => (Y_loadA (B := B) (i := (IntKind.i64.wrap ((IntKind.i64.wrap ((i2 : Int) * m.Cols)) + (j : Int))).toNat * 5) (cs := (m.Cells.flatMap enc_Dyadic)) (vs := [.int .i64 x.Num.A, .int .i64 x.Num.B, .int .i64 x.Num.C, .int .i64 x.Num.D, .int .i64 x.Exp]) k_ag_91 k_sz_91_5 rfl rfl (ST.rf hw' (i := 0) rfl) (enc_Dyadic_len x) (gi_seg enc_Dyadic_len hx))) ?_
        refine ra_all (rs := [1, 12]) (by kernel_rfl) rfl ?_
        refine ra_y 24 (i := 1) (v := .slice B3 Cells1.length c3) rfl rfl rfl (Y_load1 (B := some ⟨b2, 0, none⟩) (i := 2) (cs := [.int .i64 m.Cols, .int .i64 m.Rows, .slice B3 Cells1.length c3]) (v := .slice B3 Cells1.length c3) k_sc_27 rfl rfl (hS10.cf (i := 2) rfl) rfl) (ST.sel hS10 [0, 1] rfl rfl) ?_ ?_
        · skip
          refine ra_all (rs := [12]) (by kernel_rfl) rfl ?_
          refine ra_c 35 (i := 12) rfl rfl rfl (Yc_func (g := 153) (vs := [.agg #[.int .i64 x.Num.A, .int .i64 x.Num.B, .int .i64 x.Num.C, .int .i64 x.Num.D, .int .i64 x.Exp]]) k_call_153 rfl (mc rfl mn) (c_spec_l2Conj x _  (hS10.inn0 [] rfl) hc)) ?_ ?_
          · rintro _ w_4 ⟨rfl, hd⟩
            have hS11 := hS10.out00 hd
            have hS11 : ST w0 [] _ [⟨some ⟨b, 0, none⟩, 62, [.int .i64 m.Rows, .int .i64 m.Cols, .slice B m.Cells.length c], 3⟩, ⟨some ⟨b1, 0, none⟩, 62, [.int .i64 0, .int .i64 0, .slice none 0 0], 3⟩, ⟨some ⟨b2, 0, none⟩, 62, [.int .i64 m.Cols, .int .i64 m.Rows, .slice B3 Cells1.length c3], 3⟩, ⟨B3, 91, (Cells1.flatMap enc_Dyadic), c3 * 5⟩] [⟨B, (m.Cells.flatMap enc_Dyadic)⟩] := hS11
            refine ⟨(ST.sel hS11 [0, 1] rfl rfl), ?_⟩
            refine ra_all (rs := [13]) (by kernel_rfl) rfl ?_
            refine ra_s 36 (i := 13) rfl rfl rfl (Ys_bslice (s := 5) (len := 1) (vs := [(0, .agg #[.int .i64 r_1.Num.A, .int .i64 r_1.Num.B, .int .i64 r_1.Num.C, .int .i64 r_1.Num.D, .int .i64 r_1.Exp])]) (cs := [.int .i64 r_1.Num.A, .int .i64 r_1.Num.B, .int .i64 r_1.Num.C, .int .i64 r_1.Num.D, .int .i64 r_1.Exp]) (zs := [.int .i64 0, .int .i64 0, .int .i64 0, .int .i64 0, .int .i64 0]) (m := 5) hS11 k_sl_27_91 k_sz_91_5 k_zc_91 rfl (mpc rfl mpn) rfl rfl rfl rfl rfl rfl) ?_ ?_
            · rintro _ w_5 ⟨b3, rfl, hS12⟩
              have hS12 : ST w0 [] _ [⟨some ⟨b, 0, none⟩, 62, [.int .i64 m.Rows, .int .i64 m.Cols, .slice B m.Cells.length c], 3⟩, ⟨some ⟨b1, 0, none⟩, 62, [.int .i64 0, .int .i64 0, .slice none 0 0], 3⟩, ⟨some ⟨b2, 0, none⟩, 62, [.int .i64 m.Cols, .int .i64 m.Rows, .slice B3 Cells1.length c3], 3⟩, ⟨B3, 91, (Cells1.flatMap enc_Dyadic), c3 * 5⟩, ⟨some ⟨b3, 0, none⟩, 91, ([r_1].flatMap enc_Dyadic), 1 * 5⟩] [⟨B, (m.Cells.flatMap enc_Dyadic)⟩] := hS12
              refine ⟨(ST.sel hS12 [0, 1] rfl rfl), ?_⟩
              refine ra_all (rs := [14]) (by kernel_rfl) rfl ?_
              refine ra_s 37 (i := 14) rfl rfl rfl (Ys_append (s := 5) (by' := 40) (i := 3) (nn := Cells1.length) (c := c3) (k := 1) (len := (Cells1 ++ [r_1]).length) (B := B3) (xs := ([r_1].flatMap enc_Dyadic)) (cs' := ((Cells1 ++ [r_1]).flatMap enc_Dyadic)) hS12 k_sl_27_91 k_sz_91_5 k_by_91_40 k_zero_91 rfl (by decide) rfl rfl rfl rfl (fm_lenn (l := Cells1) enc_Dyadic_len rfl) rfl (hS12.cf (i := 4) rfl) (fm_lenn (l := [r_1]) enc_Dyadic_len rfl) (fm_one' (enc := enc_Dyadic) enc_Dyadic_one [r_1]) (by have := hap; omega) (by have := hap; simp only [maxLen]; omega) (fm_app _ _) (app_len (l := Cells1) (l' := [r_1]) rfl rfl)) ?_ ?_
              · rintro _ w_6 ⟨B4, c4, rfl, hS13⟩
                have hS13 : ST w0 [] _ [⟨some ⟨b, 0, none⟩, 62, [.int .i64 m.Rows, .int .i64 m.Cols, .slice B m.Cells.length c], 3⟩, ⟨some ⟨b1, 0, none⟩, 62, [.int .i64 0, .int .i64 0, .slice none 0 0], 3⟩, ⟨some ⟨b2, 0, none⟩, 62, [.int .i64 m.Cols, .int .i64 m.Rows, .slice B3 Cells1.length c3], 3⟩, ⟨B4, 91, ((Cells1 ++ [r_1]).flatMap enc_Dyadic), c4 * 5⟩, ⟨some ⟨b3, 0, none⟩, 91, ([r_1].flatMap enc_Dyadic), 1 * 5⟩] [⟨B, (m.Cells.flatMap enc_Dyadic)⟩] := hS13
                refine ⟨(ST.sel hS13 [0, 1] rfl rfl), ?_⟩
                refine ra_q 15 38 (v := pt (some ⟨b2, 0, none⟩) 2) rfl rfl rfl (by kernel_rfl) (by kernel_rfl) (by kernel_rfl) (ST.sel hS13 [0, 1] rfl rfl) (fun w' hw' => (Y_fieldAddr (B := some ⟨b2, 0, none⟩) (i := 0) (s := 0) k_fd_62_2_2_27 k_sz_27_1 rfl (hf1.get 3 2 rfl))) ?_
                refine ra_all (rs := [16]) (by kernel_rfl) rfl ?_
                refine ra_s0 (i := 16) rfl rfl rfl (Ys_store (i := 2) (s := 1) (B := some ⟨b2, 0, none⟩) (T' := 62) (v := .slice B4 ((Cells1 ++ [r_1]).length) c4) (vs := [.slice B4 ((Cells1 ++ [r_1]).length) c4]) (k := 2) (cs' := [.int .i64 m.Cols, .int .i64 m.Rows, .slice B4 ((Cells1 ++ [r_1]).length) c4]) hS13 k_sz_27_1 rfl rfl rfl rfl rfl rfl rfl (Nat.le_of_ble_eq_true rfl) rfl rfl) ?_ ?_
                · rintro _ w_7 ⟨rfl, hS14⟩
                  have hS14 : ST w0 [] _ [⟨some ⟨b, 0, none⟩, 62, [.int .i64 m.Rows, .int .i64 m.Cols, .slice B m.Cells.length c], 3⟩, ⟨some ⟨b1, 0, none⟩, 62, [.int .i64 0, .int .i64 0, .slice none 0 0], 3⟩, ⟨some ⟨b2, 0, none⟩, 62, [.int .i64 m.Cols, .int .i64 m.Rows, .slice B4 ((Cells1 ++ [r_1]).length) c4], 3⟩, ⟨B4, 91, ((Cells1 ++ [r_1]).flatMap enc_Dyadic), c4 * 5⟩, ⟨some ⟨b3, 0, none⟩, 91, ([r_1].flatMap enc_Dyadic), 1 * 5⟩] [⟨B, (m.Cells.flatMap enc_Dyadic)⟩] := hS14
                  refine ⟨(ST.sel hS14 [0, 1] rfl rfl), ?_⟩
                  refine ra_done (by kernel_rfl) ?_
                  exact ⟨B4, c4, (FF.cons (hf1.get 1 0 rfl) (FF.cons (hf1.get 2 1 rfl) (FF.cons (hf1.get 3 2 rfl) (FF.cons (hf1.get 4 3 rfl) (FF.cons (hf1.get 5 4 rfl) FF.nil))))), (hS14.sel [0, 1, 2, 3] rfl rfl)⟩
                exact allR_nil
              exact allR_nil
            exact allR_nil
          exact allR_nil
        refine ra_c 35 (i := 12) rfl rfl rfl (Yc_func (g := 153) (vs := [.agg #[.int .i64 x.Num.A, .int .i64 x.Num.B, .int .i64 x.Num.C, .int .i64 x.Num.D, .int .i64 x.Exp]]) k_call_153 rfl (mc rfl mn) (c_spec_l2Conj x _  (hS10.inn0 [] rfl) hc)) ?_ ?_
        · rintro _ w_8 ⟨rfl, hd1⟩
          have hS15 := hS10.out00 hd1
          have hS15 : ST w0 [] _ [⟨some ⟨b, 0, none⟩, 62, [.int .i64 m.Rows, .int .i64 m.Cols, .slice B m.Cells.length c], 3⟩, ⟨some ⟨b1, 0, none⟩, 62, [.int .i64 0, .int .i64 0, .slice none 0 0], 3⟩, ⟨some ⟨b2, 0, none⟩, 62, [.int .i64 m.Cols, .int .i64 m.Rows, .slice B3 Cells1.length c3], 3⟩, ⟨B3, 91, (Cells1.flatMap enc_Dyadic), c3 * 5⟩] [⟨B, (m.Cells.flatMap enc_Dyadic)⟩] := hS15
          refine ⟨(ST.sel hS15 [0, 1] rfl rfl), ?_⟩
          refine ra_all (rs := [1, 13]) (by kernel_rfl) rfl ?_
          refine ra_y 24 (i := 1) (v := .slice B3 Cells1.length c3) rfl rfl rfl (Y_load1 (B := some ⟨b2, 0, none⟩) (i := 2) (cs := [.int .i64 m.Cols, .int .i64 m.Rows, .slice B3 Cells1.length c3]) (v := .slice B3 Cells1.length c3) k_sc_27 rfl rfl (hS15.cf (i := 2) rfl) rfl) (ST.sel hS15 [0, 1] rfl rfl) ?_ ?_
          · skip
            refine ra_all (rs := [13]) (by kernel_rfl) rfl ?_
            refine ra_s 36 (i := 13) rfl rfl rfl (Ys_bslice (s := 5) (len := 1) (vs := [(0, .agg #[.int .i64 r_1.Num.A, .int .i64 r_1.Num.B, .int .i64 r_1.Num.C, .int .i64 r_1.Num.D, .int .i64 r_1.Exp])]) (cs := [.int .i64 r_1.Num.A, .int .i64 r_1.Num.B, .int .i64 r_1.Num.C, .int .i64 r_1.Num.D, .int .i64 r_1.Exp]) (zs := [.int .i64 0, .int .i64 0, .int .i64 0, .int .i64 0, .int .i64 0]) (m := 5) hS15 k_sl_27_91 k_sz_91_5 k_zc_91 rfl (mpc rfl mpn) rfl rfl rfl rfl rfl rfl) ?_ ?_
            · rintro _ w_9 ⟨b3, rfl, hS16⟩
              have hS16 : ST w0 [] _ [⟨some ⟨b, 0, none⟩, 62, [.int .i64 m.Rows, .int .i64 m.Cols, .slice B m.Cells.length c], 3⟩, ⟨some ⟨b1, 0, none⟩, 62, [.int .i64 0, .int .i64 0, .slice none 0 0], 3⟩, ⟨some ⟨b2, 0, none⟩, 62, [.int .i64 m.Cols, .int .i64 m.Rows, .slice B3 Cells1.length c3], 3⟩, ⟨B3, 91, (Cells1.flatMap enc_Dyadic), c3 * 5⟩, ⟨some ⟨b3, 0, none⟩, 91, ([r_1].flatMap enc_Dyadic), 1 * 5⟩] [⟨B, (m.Cells.flatMap enc_Dyadic)⟩] := hS16
              refine ⟨(ST.sel hS16 [0, 1] rfl rfl), ?_⟩
              refine ra_all (rs := [14]) (by kernel_rfl) rfl ?_
              refine ra_s 37 (i := 14) rfl rfl rfl (Ys_append (s := 5) (by' := 40) (i := 3) (nn := Cells1.length) (c := c3) (k := 1) (len := (Cells1 ++ [r_1]).length) (B := B3) (xs := ([r_1].flatMap enc_Dyadic)) (cs' := ((Cells1 ++ [r_1]).flatMap enc_Dyadic)) hS16 k_sl_27_91 k_sz_91_5 k_by_91_40 k_zero_91 rfl (by decide) rfl rfl rfl rfl (fm_lenn (l := Cells1) enc_Dyadic_len rfl) rfl (hS16.cf (i := 4) rfl) (fm_lenn (l := [r_1]) enc_Dyadic_len rfl) (fm_one' (enc := enc_Dyadic) enc_Dyadic_one [r_1]) (by have := hap; omega) (by have := hap; simp only [maxLen]; omega) (fm_app _ _) (app_len (l := Cells1) (l' := [r_1]) rfl rfl)) ?_ ?_
              · rintro _ w_10 ⟨B4, c4, rfl, hS17⟩
                have hS17 : ST w0 [] _ [⟨some ⟨b, 0, none⟩, 62, [.int .i64 m.Rows, .int .i64 m.Cols, .slice B m.Cells.length c], 3⟩, ⟨some ⟨b1, 0, none⟩, 62, [.int .i64 0, .int .i64 0, .slice none 0 0], 3⟩, ⟨some ⟨b2, 0, none⟩, 62, [.int .i64 m.Cols, .int .i64 m.Rows, .slice B3 Cells1.length c3], 3⟩, ⟨B4, 91, ((Cells1 ++ [r_1]).flatMap enc_Dyadic), c4 * 5⟩, ⟨some ⟨b3, 0, none⟩, 91, ([r_1].flatMap enc_Dyadic), 1 * 5⟩] [⟨B, (m.Cells.flatMap enc_Dyadic)⟩] := hS17
                refine ⟨(ST.sel hS17 [0, 1] rfl rfl), ?_⟩
                refine ra_q 15 38 (v := pt (some ⟨b2, 0, none⟩) 2) rfl rfl rfl (by kernel_rfl) (by kernel_rfl) (by kernel_rfl) (ST.sel hS17 [0, 1] rfl rfl) (fun w' hw' => (Y_fieldAddr (B := some ⟨b2, 0, none⟩) (i := 0) (s := 0) k_fd_62_2_2_27 k_sz_27_1 rfl (hf1.get 3 2 rfl))) ?_
                refine ra_all (rs := [16]) (by kernel_rfl) rfl ?_
                refine ra_s0 (i := 16) rfl rfl rfl (Ys_store (i := 2) (s := 1) (B := some ⟨b2, 0, none⟩) (T' := 62) (v := .slice B4 ((Cells1 ++ [r_1]).length) c4) (vs := [.slice B4 ((Cells1 ++ [r_1]).length) c4]) (k := 2) (cs' := [.int .i64 m.Cols, .int .i64 m.Rows, .slice B4 ((Cells1 ++ [r_1]).length) c4]) hS17 k_sz_27_1 rfl rfl rfl rfl rfl rfl rfl (Nat.le_of_ble_eq_true rfl) rfl rfl) ?_ ?_
                · rintro _ w_11 ⟨rfl, hS18⟩
                  have hS18 : ST w0 [] _ [⟨some ⟨b, 0, none⟩, 62, [.int .i64 m.Rows, .int .i64 m.Cols, .slice B m.Cells.length c], 3⟩, ⟨some ⟨b1, 0, none⟩, 62, [.int .i64 0, .int .i64 0, .slice none 0 0], 3⟩, ⟨some ⟨b2, 0, none⟩, 62, [.int .i64 m.Cols, .int .i64 m.Rows, .slice B4 ((Cells1 ++ [r_1]).length) c4], 3⟩, ⟨B4, 91, ((Cells1 ++ [r_1]).flatMap enc_Dyadic), c4 * 5⟩, ⟨some ⟨b3, 0, none⟩, 91, ([r_1].flatMap enc_Dyadic), 1 * 5⟩] [⟨B, (m.Cells.flatMap enc_Dyadic)⟩] := hS18
                  refine ⟨(ST.sel hS18 [0, 1] rfl rfl), ?_⟩
                  refine ra_done (by kernel_rfl) ?_
                  exact ⟨B4, c4, (FF.cons (hf1.get 1 0 rfl) (FF.cons (hf1.get 2 1 rfl) (FF.cons (hf1.get 3 2 rfl) (FF.cons (hf1.get 4 3 rfl) (FF.cons (hf1.get 5 4 rfl) FF.nil))))), (hS18.sel [0, 1, 2, 3] rfl rfl)⟩
                exact allR_nil
              exact allR_nil
            exact allR_nil
          refine ra_s 36 (i := 13) rfl rfl rfl (Ys_bslice (s := 5) (len := 1) (vs := [(0, .agg #[.int .i64 r_1.Num.A, .int .i64 r_1.Num.B, .int .i64 r_1.Num.C, .int .i64 r_1.Num.D, .int .i64 r_1.Exp])]) (cs := [.int .i64 r_1.Num.A, .int .i64 r_1.Num.B, .int .i64 r_1.Num.C, .int .i64 r_1.Num.D, .int .i64 r_1.Exp]) (zs := [.int .i64 0, .int .i64 0, .int .i64 0, .int .i64 0, .int .i64 0]) (m := 5) hS15 k_sl_27_91 k_sz_91_5 k_zc_91 rfl (mpc rfl mpn) rfl rfl rfl rfl rfl rfl) ?_ ?_
          · rintro _ w_12 ⟨b3, rfl, hS19⟩
            have hS19 : ST w0 [] _ [⟨some ⟨b, 0, none⟩, 62, [.int .i64 m.Rows, .int .i64 m.Cols, .slice B m.Cells.length c], 3⟩, ⟨some ⟨b1, 0, none⟩, 62, [.int .i64 0, .int .i64 0, .slice none 0 0], 3⟩, ⟨some ⟨b2, 0, none⟩, 62, [.int .i64 m.Cols, .int .i64 m.Rows, .slice B3 Cells1.length c3], 3⟩, ⟨B3, 91, (Cells1.flatMap enc_Dyadic), c3 * 5⟩, ⟨some ⟨b3, 0, none⟩, 91, ([r_1].flatMap enc_Dyadic), 1 * 5⟩] [⟨B, (m.Cells.flatMap enc_Dyadic)⟩] := hS19
            refine ⟨(ST.sel hS19 [0, 1] rfl rfl), ?_⟩
            refine ra_all (rs := [1]) (by kernel_rfl) rfl ?_
            refine ra_y 24 (i := 1) (v := .slice B3 Cells1.length c3) rfl rfl rfl (Y_load1 (B := some ⟨b2, 0, none⟩) (i := 2) (cs := [.int .i64 m.Cols, .int .i64 m.Rows, .slice B3 Cells1.length c3]) (v := .slice B3 Cells1.length c3) k_sc_27 rfl rfl (hS19.cf (i := 2) rfl) rfl) (ST.sel hS19 [0, 1] rfl rfl) ?_ ?_
            · skip
              refine ra_all (rs := [14]) (by kernel_rfl) rfl ?_
              refine ra_s 37 (i := 14) rfl rfl rfl (Ys_append (s := 5) (by' := 40) (i := 3) (nn := Cells1.length) (c := c3) (k := 1) (len := (Cells1 ++ [r_1]).length) (B := B3) (xs := ([r_1].flatMap enc_Dyadic)) (cs' := ((Cells1 ++ [r_1]).flatMap enc_Dyadic)) hS19 k_sl_27_91 k_sz_91_5 k_by_91_40 k_zero_91 rfl (by decide) rfl rfl rfl rfl (fm_lenn (l := Cells1) enc_Dyadic_len rfl) rfl (hS19.cf (i := 4) rfl) (fm_lenn (l := [r_1]) enc_Dyadic_len rfl) (fm_one' (enc := enc_Dyadic) enc_Dyadic_one [r_1]) (by have := hap; omega) (by have := hap; simp only [maxLen]; omega) (fm_app _ _) (app_len (l := Cells1) (l' := [r_1]) rfl rfl)) ?_ ?_
              · rintro _ w_13 ⟨B4, c4, rfl, hS20⟩
                have hS20 : ST w0 [] _ [⟨some ⟨b, 0, none⟩, 62, [.int .i64 m.Rows, .int .i64 m.Cols, .slice B m.Cells.length c], 3⟩, ⟨some ⟨b1, 0, none⟩, 62, [.int .i64 0, .int .i64 0, .slice none 0 0], 3⟩, ⟨some ⟨b2, 0, none⟩, 62, [.int .i64 m.Cols, .int .i64 m.Rows, .slice B3 Cells1.length c3], 3⟩, ⟨B4, 91, ((Cells1 ++ [r_1]).flatMap enc_Dyadic), c4 * 5⟩, ⟨some ⟨b3, 0, none⟩, 91, ([r_1].flatMap enc_Dyadic), 1 * 5⟩] [⟨B, (m.Cells.flatMap enc_Dyadic)⟩] := hS20
                refine ⟨(ST.sel hS20 [0, 1] rfl rfl), ?_⟩
                refine ra_q 15 38 (v := pt (some ⟨b2, 0, none⟩) 2) rfl rfl rfl (by kernel_rfl) (by kernel_rfl) (by kernel_rfl) (ST.sel hS20 [0, 1] rfl rfl) (fun w' hw' => (Y_fieldAddr (B := some ⟨b2, 0, none⟩) (i := 0) (s := 0) k_fd_62_2_2_27 k_sz_27_1 rfl (hf1.get 3 2 rfl))) ?_
                refine ra_all (rs := [16]) (by kernel_rfl) rfl ?_
                refine ra_s0 (i := 16) rfl rfl rfl (Ys_store (i := 2) (s := 1) (B := some ⟨b2, 0, none⟩) (T' := 62) (v := .slice B4 ((Cells1 ++ [r_1]).length) c4) (vs := [.slice B4 ((Cells1 ++ [r_1]).length) c4]) (k := 2) (cs' := [.int .i64 m.Cols, .int .i64 m.Rows, .slice B4 ((Cells1 ++ [r_1]).length) c4]) hS20 k_sz_27_1 rfl rfl rfl rfl rfl rfl rfl (Nat.le_of_ble_eq_true rfl) rfl rfl) ?_ ?_
                · rintro _ w_14 ⟨rfl, hS21⟩
                  have hS21 : ST w0 [] _ [⟨some ⟨b, 0, none⟩, 62, [.int .i64 m.Rows, .int .i64 m.Cols, .slice B m.Cells.length c], 3⟩, ⟨some ⟨b1, 0, none⟩, 62, [.int .i64 0, .int .i64 0, .slice none 0 0], 3⟩, ⟨some ⟨b2, 0, none⟩, 62, [.int .i64 m.Cols, .int .i64 m.Rows, .slice B4 ((Cells1 ++ [r_1]).length) c4], 3⟩, ⟨B4, 91, ((Cells1 ++ [r_1]).flatMap enc_Dyadic), c4 * 5⟩, ⟨some ⟨b3, 0, none⟩, 91, ([r_1].flatMap enc_Dyadic), 1 * 5⟩] [⟨B, (m.Cells.flatMap enc_Dyadic)⟩] := hS21
                  refine ⟨(ST.sel hS21 [0, 1] rfl rfl), ?_⟩
                  refine ra_done (by kernel_rfl) ?_
                  exact ⟨B4, c4, (FF.cons (hf1.get 1 0 rfl) (FF.cons (hf1.get 2 1 rfl) (FF.cons (hf1.get 3 2 rfl) (FF.cons (hf1.get 4 3 rfl) (FF.cons (hf1.get 5 4 rfl) FF.nil))))), (hS21.sel [0, 1, 2, 3] rfl rfl)⟩
                exact allR_nil
              exact allR_nil
            exact allR_nil
          exact allR_nil
        exact allR_nil
      rintro f w ⟨B5, c5, hf2, hS9⟩
      refine cw_region ?_
      refine sq 21 rfl rfl (Y_move (v := .int .i64 (i2 : Int)) rfl (hf2.get 5 4 rfl)) ?_
      refine sq 22 rfl rfl (Y_add (k := .i64) (a := (i2 : Int)) (b := 1) rfl rfl rfl) ?_
      refine sq 5 rfl rfl (Y_assign (v := .int .i64 (IntKind.i64.wrap ((i2 : Int) + 1))) rfl rfl) ?_
      refine rw_nil ?_
      obtain rfl := some_inj hb1
      exact ⟨k_3, Nat.lt_succ_self _, i2 + 1, (Cells1 ++ [r_1]), B5, c5, (FF.cons (hf2.get 1 0 rfl) (FF.cons (hf2.get 2 1 rfl) (FF.cons (hf2.get 3 2 rfl) (FF.cons (hf2.get 4 3 rfl) (FF.cons (congrArg (Value.int .i64) (wr_succ hlt3 hN1)) FF.nil))))), (hS9.sel [0, 1, 2, 3] rfl rfl), (by omega), hL3⟩
    · skip
      obtain rfl : k_2 = 0 := by have h := of_decide_eq_false hlt2; omega
      refine cw_exit rfl ?_
      obtain rfl := some_inj hL2
      refine cw_region ?_
      refine sq 15 rfl rfl (Y_move (v := .int .i64 (j : Int)) rfl (hf1.get 4 3 rfl)) ?_
      refine sq 16 rfl rfl (Y_add (k := .i64) (a := (j : Int)) (b := 1) rfl rfl rfl) ?_
      refine sq 4 rfl rfl (Y_assign (v := .int .i64 (IntKind.i64.wrap ((j : Int) + 1))) rfl rfl) ?_
      refine rw_nil ?_
      obtain rfl := some_inj hF2
      exact ⟨k_1, Nat.lt_succ_self _, j + 1, Cells1, B3, c3, (FF.cons (hf1.get 1 0 rfl) (FF.cons (hf1.get 2 1 rfl) (FF.cons (hf1.get 3 2 rfl) (FF.cons (congrArg (Value.int .i64) (wr_succ hlt1 hN)) FF.nil)))), (hS7.sel [0, 1, 2, 3] rfl rfl), (by omega), hL1⟩
  · skip
    obtain rfl : k_ = 0 := by have h := of_decide_eq_false hlt; omega
    refine cw_exit rfl ?_
    obtain rfl := some_inj hL
    refine cw_seq ?_
    refine cw_region ?_
    refine sq 39 rfl rfl (Y_loadA (B := some ⟨b2, 0, none⟩) (i := 0) (cs := [.int .i64 m.Cols, .int .i64 m.Rows, .slice B2 Cells.length c2]) (vs := [.int .i64 m.Cols, .int .i64 m.Rows, .slice B2 Cells.length c2]) k_ag_62 k_sz_62_3 rfl (hf.get 3 2 rfl) (hS5.cf (i := 2) rfl) rfl rfl) ?_
    refine ss0 rfl rfl (Ys_store (i := 1) (s := 3) (B := some ⟨b1, 0, none⟩) (T' := 62) (v := .agg #[.int .i64 m.Cols, .int .i64 m.Rows, .slice B2 Cells.length c2]) (vs := [.int .i64 m.Cols, .int .i64 m.Rows, .slice B2 Cells.length c2]) (k := 0) (cs' := [.int .i64 m.Cols, .int .i64 m.Rows, .slice B2 Cells.length c2]) hS5 k_sz_62_3 rfl (hf.get 2 1 rfl) rfl rfl rfl rfl rfl (Nat.le_of_ble_eq_true rfl) rfl rfl) ?_
    rintro _ w_15 ⟨rfl, hS22⟩
    have hS22 : ST w0 [] _ [⟨some ⟨b, 0, none⟩, 62, [.int .i64 m.Rows, .int .i64 m.Cols, .slice B m.Cells.length c], 3⟩, ⟨some ⟨b1, 0, none⟩, 62, [.int .i64 m.Cols, .int .i64 m.Rows, .slice B2 Cells.length c2], 3⟩, ⟨some ⟨b2, 0, none⟩, 62, [.int .i64 m.Cols, .int .i64 m.Rows, .slice B2 Cells.length c2], 3⟩, ⟨B2, 91, (Cells.flatMap enc_Dyadic), c2 * 5⟩] [⟨B, (m.Cells.flatMap enc_Dyadic)⟩] := hS22
    refine rw_nil ?_
    refine cw_ret ?_
    obtain rfl := some_inj hF1
    exact ret1 Try.results96 (v1 := .agg #[.int .i64 m.Cols, .int .i64 m.Rows, .slice B2 Cells.length c2]) (resAt_cellA (B := some ⟨b1, 0, none⟩) (i := 0) (cs := [.int .i64 m.Cols, .int .i64 m.Rows, .slice B2 Cells.length c2]) (vs := [.int .i64 m.Cols, .int .i64 m.Rows, .slice B2 Cells.length c2]) (hf.get 2 1 rfl) k_ag_62 k_sz_62_3 (hS22.cf (i := 1) rfl) rfl rfl) ⟨B2, c2, rfl, (ST.subR (R' := []) (hS22.sel [3] rfl rfl) (fun _ h => by cases h))⟩

theorem c_spec_EqualMatrices (a : TMatrix) (b : TMatrix) (B : Option Addr) (c n : Nat) (B1 : Option Addr) (c1 n1 : Nat) (w0 : World) (hn : a.Cells.length = n) (hn1 : b.Cells.length = n1) (hS : ST w0 [] w0 [] [⟨B, (a.Cells.flatMap enc_Dyadic)⟩, ⟨B1, (b.Cells.flatMap enc_Dyadic)⟩]) {r_ : Bool} (hF : F_spec_EqualMatrices a b = some r_) :
    CV Try.prog 97 #[.agg #[.int .i64 a.Rows, .int .i64 a.Cols, .slice B n c], .agg #[.int .i64 b.Rows, .int .i64 b.Cols, .slice B1 n1 c1]] w0 (fun v w' => v = .bool r_ ∧ ST w0 [] w' [] []) := by
  subst hn
  subst hn1
  unfold F_spec_EqualMatrices at hF
  refine cv_of_cw 45 Try.func97 rfl Try.ntmps97 rfl ?_
  refine cw_seq ?_
  refine cw_region ?_
  refine ss 2 rfl rfl (Ys_box (T := 62) (v := .agg #[.int .i64 a.Rows, .int .i64 a.Cols, .slice B a.Cells.length c]) (cs := [.int .i64 a.Rows, .int .i64 a.Cols, .slice B a.Cells.length c]) (m := 3) hS rfl rfl rfl rfl) ?_
  rintro _ w_ ⟨b1, rfl, hS1⟩
  refine ss 3 rfl rfl (Ys_box (T := 62) (v := .agg #[.int .i64 b.Rows, .int .i64 b.Cols, .slice B1 b.Cells.length c1]) (cs := [.int .i64 b.Rows, .int .i64 b.Cols, .slice B1 b.Cells.length c1]) (m := 3) hS1 rfl rfl rfl rfl) ?_
  rintro _ w_1 ⟨b2, rfl, hS2⟩
  have hS2 : ST w0 [] _ [⟨some ⟨b1, 0, none⟩, 62, [.int .i64 a.Rows, .int .i64 a.Cols, .slice B a.Cells.length c], 3⟩, ⟨some ⟨b2, 0, none⟩, 62, [.int .i64 b.Rows, .int .i64 b.Cols, .slice B1 b.Cells.length c1], 3⟩] [⟨B, (a.Cells.flatMap enc_Dyadic)⟩, ⟨B1, (b.Cells.flatMap enc_Dyadic)⟩] := hS2
  refine sq 4 rfl rfl (Y_assign (v := .bool false) rfl rfl) ?_
  refine rw_nil ?_
  refine cw_seq ?_
  refine cw_seq ?_
  refine cw_region ?_
  refine sq 6 rfl rfl (Y_fieldAddr (B := some ⟨b1, 0, none⟩) (i := 0) (s := 0) k_fd_62_0_0_3 k_sz_3_1 rfl rfl) ?_
  refine sq 7 rfl rfl (Y_load1 (B := some ⟨b1, 0, none⟩) (i := 0) (cs := [.int .i64 a.Rows, .int .i64 a.Cols, .slice B a.Cells.length c]) (v := .int .i64 a.Rows) k_sc_3 rfl rfl (hS2.cf (i := 0) rfl) rfl) ?_
  refine sq 8 rfl rfl (Y_fieldAddr (B := some ⟨b2, 0, none⟩) (i := 0) (s := 0) k_fd_62_0_0_3 k_sz_3_1 rfl rfl) ?_
  refine sq 9 rfl rfl (Y_load1 (B := some ⟨b2, 0, none⟩) (i := 0) (cs := [.int .i64 b.Rows, .int .i64 b.Cols, .slice B1 b.Cells.length c1]) (v := .int .i64 b.Rows) k_sc_3 rfl rfl (hS2.cf (i := 1) rfl) rfl) ?_
  refine sq 10 rfl rfl (Y_ne (k := .i64) (a := a.Rows) (b := b.Rows) rfl rfl rfl) ?_
  refine sq 11 rfl rfl (Y_move (v := .bool (a.Rows != b.Rows)) rfl rfl) ?_
  refine sgq 12 (B := (!(a.Rows != b.Rows))) (v := pt (some ⟨b1, 0, none⟩) 1) rfl rfl (wt_f (gd_of (t := 11) (by kernel_rfl) rfl)) (fun hg => (Y_fieldAddr (B := some ⟨b1, 0, none⟩) (i := 0) (s := 0) k_fd_62_1_1_3 k_sz_3_1 rfl rfl)) ?_
  refine sgq 13 (B := (!(a.Rows != b.Rows))) (v := .int .i64 a.Cols) rfl rfl (wt_f (gd_of (t := 11) (by kernel_rfl) rfl)) (fun hg1 => (Y_load1 (B := some ⟨b1, 0, none⟩) (i := 1) (cs := [.int .i64 a.Rows, .int .i64 a.Cols, .slice B a.Cells.length c]) (v := .int .i64 a.Cols) k_sc_3 rfl (gv_of (B := (!(a.Rows != b.Rows))) (v := pt (some ⟨b1, 0, none⟩) 1) hg1) (hS2.cf (i := 0) rfl) rfl)) ?_
  refine sgq 14 (B := (!(a.Rows != b.Rows))) (v := pt (some ⟨b2, 0, none⟩) 1) rfl rfl (wt_f (gd_of (t := 11) (by kernel_rfl) rfl)) (fun hg2 => (Y_fieldAddr (B := some ⟨b2, 0, none⟩) (i := 0) (s := 0) k_fd_62_1_1_3 k_sz_3_1 rfl rfl)) ?_
  refine sgq 15 (B := (!(a.Rows != b.Rows))) (v := .int .i64 b.Cols) rfl rfl (wt_f (gd_of (t := 11) (by kernel_rfl) rfl)) (fun hg3 => (Y_load1 (B := some ⟨b2, 0, none⟩) (i := 1) (cs := [.int .i64 b.Rows, .int .i64 b.Cols, .slice B1 b.Cells.length c1]) (v := .int .i64 b.Cols) k_sc_3 rfl (gv_of (B := (!(a.Rows != b.Rows))) (v := pt (some ⟨b2, 0, none⟩) 1) hg3) (hS2.cf (i := 1) rfl) rfl)) ?_
  refine sgq 16 (B := (!(a.Rows != b.Rows))) (v := .bool (a.Cols != b.Cols)) rfl rfl (wt_f (gd_of (t := 11) (by kernel_rfl) rfl)) (fun hg4 => (Y_ne (k := .i64) (a := a.Cols) (b := b.Cols) rfl (gv_of (B := (!(a.Rows != b.Rows))) (v := .int .i64 a.Cols) hg4) (gv_of (B := (!(a.Rows != b.Rows))) (v := .int .i64 b.Cols) hg4))) ?_
  refine sq 17 rfl rfl (Y_or (b := (a.Rows != b.Rows)) (z := (a.Cols != b.Cols)) rfl rfl rfl rfl) ?_
  refine sq 18 rfl rfl (Y_move (v := .bool ((a.Rows != b.Rows) || (a.Cols != b.Cols))) rfl rfl) ?_
  refine sgq 19 (B := (!((a.Rows != b.Rows) || (a.Cols != b.Cols)))) (v := pt (some ⟨b1, 0, none⟩) 2) rfl rfl (wt_f (gd_of (t := 18) (by kernel_rfl) rfl)) (fun hg5 => (Y_fieldAddr (B := some ⟨b1, 0, none⟩) (i := 0) (s := 0) k_fd_62_2_2_27 k_sz_27_1 rfl rfl)) ?_
  refine sgq 20 (B := (!((a.Rows != b.Rows) || (a.Cols != b.Cols)))) (v := .slice B a.Cells.length c) rfl rfl (wt_f (gd_of (t := 18) (by kernel_rfl) rfl)) (fun hg6 => (Y_load1 (B := some ⟨b1, 0, none⟩) (i := 2) (cs := [.int .i64 a.Rows, .int .i64 a.Cols, .slice B a.Cells.length c]) (v := .slice B a.Cells.length c) k_sc_27 rfl (gv_of (B := (!((a.Rows != b.Rows) || (a.Cols != b.Cols)))) (v := pt (some ⟨b1, 0, none⟩) 2) hg6) (hS2.cf (i := 0) rfl) rfl)) ?_
  refine sgq 21 (B := (!((a.Rows != b.Rows) || (a.Cols != b.Cols)))) (v := .int .i64 (a.Cells.length : Int)) rfl rfl (wt_f (gd_of (t := 18) (by kernel_rfl) rfl)) (fun hg7 => (Y_len (B := B) (m := a.Cells.length) (c := c) k_sl_27_91 rfl (gv_of (B := (!((a.Rows != b.Rows) || (a.Cols != b.Cols)))) (v := .slice B a.Cells.length c) hg7))) ?_
  refine sgq 22 (B := (!((a.Rows != b.Rows) || (a.Cols != b.Cols)))) (v := pt (some ⟨b2, 0, none⟩) 2) rfl rfl (wt_f (gd_of (t := 18) (by kernel_rfl) rfl)) (fun hg8 => (Y_fieldAddr (B := some ⟨b2, 0, none⟩) (i := 0) (s := 0) k_fd_62_2_2_27 k_sz_27_1 rfl rfl)) ?_
  refine sgq 23 (B := (!((a.Rows != b.Rows) || (a.Cols != b.Cols)))) (v := .slice B1 b.Cells.length c1) rfl rfl (wt_f (gd_of (t := 18) (by kernel_rfl) rfl)) (fun hg9 => (Y_load1 (B := some ⟨b2, 0, none⟩) (i := 2) (cs := [.int .i64 b.Rows, .int .i64 b.Cols, .slice B1 b.Cells.length c1]) (v := .slice B1 b.Cells.length c1) k_sc_27 rfl (gv_of (B := (!((a.Rows != b.Rows) || (a.Cols != b.Cols)))) (v := pt (some ⟨b2, 0, none⟩) 2) hg9) (hS2.cf (i := 1) rfl) rfl)) ?_
  refine sgq 24 (B := (!((a.Rows != b.Rows) || (a.Cols != b.Cols)))) (v := .int .i64 (b.Cells.length : Int)) rfl rfl (wt_f (gd_of (t := 18) (by kernel_rfl) rfl)) (fun hg10 => (Y_len (B := B1) (m := b.Cells.length) (c := c1) k_sl_27_91 rfl (gv_of (B := (!((a.Rows != b.Rows) || (a.Cols != b.Cols)))) (v := .slice B1 b.Cells.length c1) hg10))) ?_
  refine sgq 25 (B := (!((a.Rows != b.Rows) || (a.Cols != b.Cols)))) (v := .bool ((a.Cells.length : Int) != (b.Cells.length : Int))) rfl rfl (wt_f (gd_of (t := 18) (by kernel_rfl) rfl)) (fun hg11 => (Y_ne (k := .i64) (a := (a.Cells.length : Int)) (b := (b.Cells.length : Int)) rfl (gv_of (B := (!((a.Rows != b.Rows) || (a.Cols != b.Cols)))) (v := .int .i64 (a.Cells.length : Int)) hg11) (gv_of (B := (!((a.Rows != b.Rows) || (a.Cols != b.Cols)))) (v := .int .i64 (b.Cells.length : Int)) hg11))) ?_
  refine sq 26 rfl rfl (Y_or (b := ((a.Rows != b.Rows) || (a.Cols != b.Cols))) (z := ((a.Cells.length : Int) != (b.Cells.length : Int))) rfl rfl rfl rfl) ?_
  refine rw_nil ?_
  refine cw_cond (b := (((a.Rows != b.Rows) || (a.Cols != b.Cols)) || ((a.Cells.length : Int) != (b.Cells.length : Int)))) rfl (fun hb => ?_) (fun hb => ?_)
  · skip
    have hF1 := ct hF hb
    refine cw_seq ?_
    refine cw_region ?_
    refine sq 4 rfl rfl (Y_assign (v := .bool false) rfl rfl) ?_
    refine rw_nil ?_
    refine cw_ret ?_
    obtain rfl := some_inj hF1
    exact ret1 Try.results97 (v1 := .bool false) (resAt_tmp rfl) ⟨rfl, (ST.subR (R' := []) (hS2.sel [] rfl rfl) (fun _ h => by cases h))⟩
  · skip
    have hF2 := cf' hF hb
    refine cw_skip ?_
    refine cw_seq ?_
    refine cw_seq ?_
    refine cw_region ?_
    refine sq 27 rfl rfl (Y_fieldAddr (B := some ⟨b1, 0, none⟩) (i := 0) (s := 0) k_fd_62_2_2_27 k_sz_27_1 rfl rfl) ?_
    refine sq 28 rfl rfl (Y_load1 (B := some ⟨b1, 0, none⟩) (i := 2) (cs := [.int .i64 a.Rows, .int .i64 a.Cols, .slice B a.Cells.length c]) (v := .slice B a.Cells.length c) k_sc_27 rfl rfl (hS2.cf (i := 0) rfl) rfl) ?_
    refine sq 29 rfl rfl (Y_len (B := B) (m := a.Cells.length) (c := c) k_sl_27_91 rfl rfl) ?_
    refine sq 30 rfl rfl (Y_move (v := .int .i64 0) rfl rfl) ?_
    refine rw_nil ?_
    obtain ⟨hN, hF2⟩ := chk_inv hF2
    obtain ⟨z, hz, hF3⟩ := bind_inv hF2
    refine cw_block ?_
    refine cw_loop (fun k f w => ∃ (i : Nat), FF f [(2, pt (some ⟨b1, 0, none⟩) 0), (3, pt (some ⟨b2, 0, none⟩) 0), (29, .int .i64 (a.Cells.length : Int)), (30, .int .i64 (i : Int))] ∧ ST w0 [] w [⟨some ⟨b1, 0, none⟩, 62, [.int .i64 a.Rows, .int .i64 a.Cols, .slice B a.Cells.length c], 3⟩, ⟨some ⟨b2, 0, none⟩, 62, [.int .i64 b.Rows, .int .i64 b.Cols, .slice B1 b.Cells.length c1], 3⟩] [⟨B, (a.Cells.flatMap enc_Dyadic)⟩, ⟨B1, (b.Cells.flatMap enc_Dyadic)⟩] ∧ i + k = a.Cells.length ∧ forX (F_spec_EqualMatrices_l1 a b) k i () = some z) a.Cells.length ⟨0, (FF.cons rfl (FF.cons rfl (FF.cons rfl (FF.cons rfl FF.nil)))), (hS2.sel [0, 1] rfl rfl), Nat.zero_add _, hz⟩ ?_
    rintro k_ f w ⟨i, hf, hS3, hik, hL⟩
    refine cw_seq ?_
    refine cw_region ?_
    refine sq 31 rfl rfl (Y_lt (k := .i64) (a := (i : Int)) (b := (a.Cells.length : Int)) rfl (hf.get 30 3 rfl) (hf.get 29 2 rfl)) ?_
    refine rw_nil ?_
    refine cw_seq ?_
    refine cw_cond (b := (decide ((i : Int) < (a.Cells.length : Int)))) rfl (fun hlt => ?_) (fun hlt => ?_)
    · skip
      have hlt1 : i < a.Cells.length := by have h := of_decide_eq_true hlt; omega
      obtain ⟨k_1, rfl⟩ : ∃ k2, k_ = k2 + 1 := ⟨k_ - 1, by omega⟩
      obtain ⟨y, hb1, hL1⟩ := forX_go hL
      unfold F_spec_EqualMatrices_l1 at hb1
      refine cw_skip ?_
      refine cw_seq ?_
      refine cw_block ?_
      refine cw_seq ?_
      refine cw_region ?_
      refine sq 32 rfl rfl (Y_move (v := .int .i64 (i : Int)) rfl (hf.get 30 3 rfl)) ?_
      refine sq 5 rfl rfl (Y_assign (v := .int .i64 (i : Int)) rfl rfl) ?_
      refine rw_nil ?_
      refine cw_seq ?_
      obtain ⟨x, hx, hb1⟩ := bind_inv hb1
      obtain ⟨x1, hx1, hb1⟩ := bind_inv hb1
      refine ra_start (ST.sel hS3 [0, 1] rfl rfl).fn (by kernel_rfl) ?_
      have hS4 := hS3.drew
      refine ra_q 0 33 (v := pt (some ⟨b1, 0, none⟩) 2) rfl rfl rfl (by kernel_rfl) (by kernel_rfl) (by kernel_rfl) (ST.sel hS4 [0, 1] rfl rfl) (fun w' hw' => (Y_fieldAddr (B := some ⟨b1, 0, none⟩) (i := 0) (s := 0) k_fd_62_2_2_27 k_sz_27_1 rfl (hf.get 2 0 rfl))) ?_
      refine ra_q 1 34 (v := .slice B a.Cells.length c) rfl rfl rfl (by kernel_rfl) (by kernel_rfl) (by kernel_rfl) (ST.sel hS4 [0, 1] rfl rfl) (fun w' hw' => (Y_load1 (B := some ⟨b1, 0, none⟩) (i := 2) (cs := [.int .i64 a.Rows, .int .i64 a.Cols, .slice B a.Cells.length c]) (v := .slice B a.Cells.length c) k_sc_27 rfl rfl (ST.cf hw' (i := 0) rfl) rfl)) ?_
      refine ra_q 2 35 (v := .int .i64 (i : Int)) rfl rfl rfl (by kernel_rfl) (by kernel_rfl) (by kernel_rfl) (ST.sel hS4 [0, 1] rfl rfl) (fun w' hw' => (Y_move (v := .int .i64 (i : Int)) rfl rfl)) ?_
      refine ra_q 3 36 (v := pt B ((i : Int).toNat * 5)) rfl rfl rfl (by kernel_rfl) (by kernel_rfl) (by kernel_rfl) (ST.sel hS4 [0, 1] rfl rfl) (fun w' hw' => (Y_index (B := B) (m := a.Cells.length) (c := c) (k := .i64) (i := (i : Int)) k_sl_27_91 k_sz_91_5 rfl rfl rfl (gi_isSome enc_Dyadic_len rfl (ST.rf hw' (i := 0) rfl) hx) (getI_nn hx) (getI_ltI hx rfl))) ?_
      refine ra_q 4 37 (v := .agg #[.int .i64 x.Num.A, .int .i64 x.Num.B, .int .i64 x.Num.C, .int .i64 x.Num.D, .int .i64 x.Exp]) rfl rfl rfl (by kernel_rfl) (by kernel_rfl) (by kernel_rfl) (ST.sel hS4 [0, 1] rfl rfl) (fun w' hw' => (Y_loadA (B := B) (i := (i : Int).toNat * 5) (cs := (a.Cells.flatMap enc_Dyadic)) (vs := [.int .i64 x.Num.A, .int .i64 x.Num.B, .int .i64 x.Num.C, .int .i64 x.Num.D, .int .i64 x.Exp]) k_ag_91 k_sz_91_5 rfl rfl (ST.rf hw' (i := 0) rfl) (enc_Dyadic_len x) (gi_seg enc_Dyadic_len hx))) ?_
      refine ra_q 5 38 (v := pt (some ⟨b2, 0, none⟩) 2) rfl rfl rfl (by kernel_rfl) (by kernel_rfl) (by kernel_rfl) (ST.sel hS4 [0, 1] rfl rfl) (fun w' hw' => (Y_fieldAddr (B := some ⟨b2, 0, none⟩) (i := 0) (s := 0) k_fd_62_2_2_27 k_sz_27_1 rfl (hf.get 3 1 rfl))) ?_
      refine ra_q 6 39 (v := .slice B1 b.Cells.length c1) rfl rfl rfl (by kernel_rfl) (by kernel_rfl) (by kernel_rfl) (ST.sel hS4 [0, 1] rfl rfl) (fun w' hw' => (Y_load1 (B := some ⟨b2, 0, none⟩) (i := 2) (cs := [.int .i64 b.Rows, .int .i64 b.Cols, .slice B1 b.Cells.length c1]) (v := .slice B1 b.Cells.length c1) k_sc_27 rfl rfl (ST.cf hw' (i := 1) rfl) rfl)) ?_
      refine ra_q 7 40 (v := .int .i64 (i : Int)) rfl rfl rfl (by kernel_rfl) (by kernel_rfl) (by kernel_rfl) (ST.sel hS4 [0, 1] rfl rfl) (fun w' hw' => (Y_move (v := .int .i64 (i : Int)) rfl rfl)) ?_
      refine ra_q 8 41 (v := pt B1 ((i : Int).toNat * 5)) rfl rfl rfl (by kernel_rfl) (by kernel_rfl) (by kernel_rfl) (ST.sel hS4 [0, 1] rfl rfl) (fun w' hw' => (Y_index (B := B1) (m := b.Cells.length) (c := c1) (k := .i64) (i := (i : Int)) k_sl_27_91 k_sz_91_5 rfl rfl rfl (gi_isSome enc_Dyadic_len rfl (ST.rf hw' (i := 1) rfl) hx1) (getI_nn hx1) (getI_ltI hx1 rfl))) ?_
      refine ra_q 9 42 (v := .agg #[.int .i64 x1.Num.A, .int .i64 x1.Num.B, .int .i64 x1.Num.C, .int .i64 x1.Num.D, .int .i64 x1.Exp]) rfl rfl rfl (by kernel_rfl) (by kernel_rfl) (by kernel_rfl) (ST.sel hS4 [0, 1] rfl rfl) (fun w' hw' => (Y_loadA (B := B1) (i := (i : Int).toNat * 5) (cs := (b.Cells.flatMap enc_Dyadic)) (vs := [.int .i64 x1.Num.A, .int .i64 x1.Num.B, .int .i64 x1.Num.C, .int .i64 x1.Num.D, .int .i64 x1.Exp]) k_ag_91 k_sz_91_5 rfl rfl (ST.rf hw' (i := 1) rfl) (enc_Dyadic_len x1) (gi_seg enc_Dyadic_len hx1))) ?_
      refine ra_q 10 43 (v := .bool (!(((x.Num.A == x1.Num.A) && ((x.Num.B == x1.Num.B) && ((x.Num.C == x1.Num.C) && ((x.Num.D == x1.Num.D) && true)))) && ((x.Exp == x1.Exp) && true)))) rfl rfl rfl (by kernel_rfl) (by kernel_rfl) (by kernel_rfl) (ST.sel hS4 [0, 1] rfl rfl) (fun w' hw' => (Y_neA (xs := #[.int .i64 x.Num.A, .int .i64 x.Num.B, .int .i64 x.Num.C, .int .i64 x.Num.D, .int .i64 x.Exp]) (ys := #[.int .i64 x1.Num.A, .int .i64 x1.Num.B, .int .i64 x1.Num.C, .int .i64 x1.Num.D, .int .i64 x1.Exp]) (b := (((x.Num.A == x1.Num.A) && ((x.Num.B == x1.Num.B) && ((x.Num.C == x1.Num.C) && ((x.Num.D == x1.Num.D) && true)))) && ((x.Exp == x1.Exp) && true))) k_eg_91 rfl rfl rfl (eqr_struct (xs := [.int .i64 x.Num.A, .int .i64 x.Num.B, .int .i64 x.Num.C, .int .i64 x.Num.D, .int .i64 x.Exp]) (ys := [.int .i64 x1.Num.A, .int .i64 x1.Num.B, .int .i64 x1.Num.C, .int .i64 x1.Num.D, .int .i64 x1.Exp]) k_st_91 k_ho_91 (pts_ag (us := [.int .i64 x.Num.A, .int .i64 x.Num.B, .int .i64 x.Num.C, .int .i64 x.Num.D]) (vs := [.int .i64 x1.Num.A, .int .i64 x1.Num.B, .int .i64 x1.Num.C, .int .i64 x1.Num.D]) k_ag_89 k_sz_89_4 rfl rfl (eqr_struct (xs := [.int .i64 x.Num.A, .int .i64 x.Num.B, .int .i64 x.Num.C, .int .i64 x.Num.D]) (ys := [.int .i64 x1.Num.A, .int .i64 x1.Num.B, .int .i64 x1.Num.C, .int .i64 x1.Num.D]) k_st_89 k_ho_89 (pts_sc k_sc_3 rfl rfl (eqr_int k_int_3_i64) (pts_sc k_sc_3 rfl rfl (eqr_int k_int_3_i64) (pts_sc k_sc_3 rfl rfl (eqr_int k_int_3_i64) (pts_sc k_sc_3 rfl rfl (eqr_int k_int_3_i64) pts_nil))))) (pts_sc k_sc_3 rfl rfl (eqr_int k_int_3_i64) pts_nil))))) ?_
      refine ra_done (by kernel_rfl) ?_
      refine cw_cond (b := (!(((x.Num.A == x1.Num.A) && ((x.Num.B == x1.Num.B) && ((x.Num.C == x1.Num.C) && ((x.Num.D == x1.Num.D) && true)))) && ((x.Exp == x1.Exp) && true)))) rfl (fun hb2 => ?_) (fun hb2 => ?_)
      · skip
        have hF4 := ct hb1 hb2
        refine cw_seq ?_
        refine cw_region ?_
        refine sq 4 rfl rfl (Y_assign (v := .bool false) rfl rfl) ?_
        refine rw_nil ?_
        refine cw_ret ?_
        obtain rfl := some_inj hF4
        obtain rfl := some_inj hL1
        obtain rfl := some_inj hF3
        exact ret1 Try.results97 (v1 := .bool false) (resAt_tmp rfl) ⟨rfl, (ST.subR (R' := []) (hS4.sel [] rfl rfl) (fun _ h => by cases h))⟩
      · skip
        have hF5 := cf' hb1 hb2
        refine cw_skip ?_
        refine cw_region ?_
        refine sq 44 rfl rfl (Y_add (k := .i64) (a := (i : Int)) (b := 1) rfl (hf.get 30 3 rfl) rfl) ?_
        refine sq 30 rfl rfl (Y_move (v := .int .i64 (IntKind.i64.wrap ((i : Int) + 1))) rfl rfl) ?_
        refine rw_nil ?_
        obtain rfl := some_inj hF5
        exact ⟨k_1, Nat.lt_succ_self _, i + 1, (FF.cons (hf.get 2 0 rfl) (FF.cons (hf.get 3 1 rfl) (FF.cons (hf.get 29 2 rfl) (FF.cons (congrArg (Value.int .i64) (wr_succ hlt1 hN)) FF.nil)))), (hS4.sel [0, 1] rfl rfl), (by omega), hL1⟩
    · skip
      obtain rfl : k_ = 0 := by have h := of_decide_eq_false hlt; omega
      refine cw_exit rfl ?_
      obtain rfl := some_inj hL
      refine cw_seq ?_
      refine cw_region ?_
      refine sq 4 rfl rfl (Y_assign (v := .bool true) rfl rfl) ?_
      refine rw_nil ?_
      refine cw_ret ?_
      obtain rfl := some_inj hF3
      exact ret1 Try.results97 (v1 := .bool true) (resAt_tmp rfl) ⟨rfl, (ST.subR (R' := []) (hS3.sel [] rfl rfl) (fun _ h => by cases h))⟩

theorem c_spec_l1Turn (x : TRing) (k_ : Int)  (w0 : World)  (hS : ST w0 [] w0 [] []) {r_ : TRing} (hF : F_spec_l1Turn x k_ = some r_) :
    CV Try.prog 183 #[.agg #[.int .i64 x.A, .int .i64 x.B, .int .i64 x.C, .int .i64 x.D], .int .i64 k_] w0 (fun v w' => v = .agg #[.int .i64 r_.A, .int .i64 r_.B, .int .i64 r_.C, .int .i64 r_.D] ∧ ST w0 [] w' [] []) := by
  unfold F_spec_l1Turn at hF
  refine cv_of_cw 24 Try.func183 rfl Try.ntmps183 rfl ?_
  refine cw_seq ?_
  refine cw_region ?_
  refine ss 2 rfl rfl (Ys_box (T := 89) (v := .agg #[.int .i64 x.A, .int .i64 x.B, .int .i64 x.C, .int .i64 x.D]) (cs := [.int .i64 x.A, .int .i64 x.B, .int .i64 x.C, .int .i64 x.D]) (m := 4) hS rfl rfl rfl rfl) ?_
  rintro _ w_ ⟨b, rfl, hS1⟩
  refine ss 4 rfl rfl (Ys_alloc (T := 89) (cs := [.int .i64 0, .int .i64 0, .int .i64 0, .int .i64 0]) (m := 4) hS1 k_zero_89 rfl rfl rfl) ?_
  rintro _ w_1 ⟨b1, rfl, hS2⟩
  have hS2 : ST w0 [] _ [⟨some ⟨b, 0, none⟩, 89, [.int .i64 x.A, .int .i64 x.B, .int .i64 x.C, .int .i64 x.D], 4⟩, ⟨some ⟨b1, 0, none⟩, 89, [.int .i64 0, .int .i64 0, .int .i64 0, .int .i64 0], 4⟩] [] := hS2
  refine rw_nil ?_
  refine cw_seq ?_
  refine cw_seq ?_
  refine cw_region ?_
  refine sq 5 rfl rfl (Y_move (v := .int .i64 k_) rfl rfl) ?_
  refine sq 6 rfl rfl (Y_rem (k := .i64) (a := k_) (b := 8) rfl rfl rfl (by decide)) ?_
  refine sq 7 rfl rfl (Y_add (k := .i64) (a := (Int.tmod k_ 8)) (b := 8) rfl rfl rfl) ?_
  refine sq 8 rfl rfl (Y_rem (k := .i64) (a := (IntKind.i64.wrap ((Int.tmod k_ 8) + 8))) (b := 8) rfl rfl rfl (by decide)) ?_
  refine sq 1 rfl rfl (Y_assign (v := .int .i64 (Int.tmod (IntKind.i64.wrap ((Int.tmod k_ 8) + 8)) 8)) rfl rfl) ?_
  refine rw_nil ?_
  obtain ⟨z, hz, hF1⟩ := bind_inv hF
  refine cw_block ?_
  refine cw_loop (fun k f w => ∃ (k_1 : Int) (A : Int) (B : Int) (C : Int) (D : Int), FF f [(1, .int .i64 k_1), (2, pt (some ⟨b, 0, none⟩) 0), (4, pt (some ⟨b1, 0, none⟩) 0)] ∧ ST w0 [] w [⟨some ⟨b, 0, none⟩, 89, [.int .i64 A, .int .i64 B, .int .i64 C, .int .i64 D], 4⟩, ⟨some ⟨b1, 0, none⟩, 89, [.int .i64 0, .int .i64 0, .int .i64 0, .int .i64 0], 4⟩] [] ∧ whX F_spec_l1Turn_l1 k (k_1, A, B, C, D) = some z) fuel ⟨(Int.tmod (IntKind.i64.wrap ((Int.tmod k_ 8) + 8)) 8), x.A, x.B, x.C, x.D, (FF.cons rfl (FF.cons rfl (FF.cons rfl FF.nil))), (hS2.sel [0, 1] rfl rfl), hz⟩ ?_
  rintro k_2 f w ⟨k_1, A, B, C, D, hf, hS3, hL⟩
  obtain ⟨k_3, y, rfl, hb, hL1⟩ := whX_go hL
  unfold F_spec_l1Turn_l1 at hb
  refine cw_seq ?_
  refine cw_seq ?_
  refine cw_region ?_
  refine sq 9 rfl rfl (Y_move (v := .int .i64 k_1) rfl (hf.get 1 0 rfl)) ?_
  refine sq 10 rfl rfl (Y_gt (k := .i64) (a := k_1) (b := 0) rfl rfl rfl) ?_
  refine rw_nil ?_
  refine cw_cond (b := (decide (0 < k_1))) rfl (fun hb1 => ?_) (fun hb1 => ?_)
  · skip
    have hF2 := ct hb hb1
    refine cw_skip ?_
    refine cw_seq ?_
    refine cw_block ?_
    refine cw_region ?_
    refine sq 13 rfl rfl (Y_fieldAddr (B := some ⟨b, 0, none⟩) (i := 0) (s := 0) k_fd_89_3_3_3 k_sz_3_1 rfl (hf.get 2 1 rfl)) ?_
    refine sq 14 rfl rfl (Y_load1 (B := some ⟨b, 0, none⟩) (i := 3) (cs := [.int .i64 A, .int .i64 B, .int .i64 C, .int .i64 D]) (v := .int .i64 D) k_sc_3 rfl rfl (hS3.cf (i := 0) rfl) rfl) ?_
    refine sq 15 rfl rfl (Y_neg (k := .i64) (a := D) rfl rfl) ?_
    refine sq 16 rfl rfl (Y_fieldAddr (B := some ⟨b, 0, none⟩) (i := 0) (s := 0) k_fd_89_0_0_3 k_sz_3_1 rfl (hf.get 2 1 rfl)) ?_
    refine sq 17 rfl rfl (Y_load1 (B := some ⟨b, 0, none⟩) (i := 0) (cs := [.int .i64 A, .int .i64 B, .int .i64 C, .int .i64 D]) (v := .int .i64 A) k_sc_3 rfl rfl (hS3.cf (i := 0) rfl) rfl) ?_
    refine sq 18 rfl rfl (Y_fieldAddr (B := some ⟨b, 0, none⟩) (i := 0) (s := 0) k_fd_89_1_1_3 k_sz_3_1 rfl (hf.get 2 1 rfl)) ?_
    refine sq 19 rfl rfl (Y_load1 (B := some ⟨b, 0, none⟩) (i := 1) (cs := [.int .i64 A, .int .i64 B, .int .i64 C, .int .i64 D]) (v := .int .i64 B) k_sc_3 rfl rfl (hS3.cf (i := 0) rfl) rfl) ?_
    refine sq 20 rfl rfl (Y_fieldAddr (B := some ⟨b, 0, none⟩) (i := 0) (s := 0) k_fd_89_2_2_3 k_sz_3_1 rfl (hf.get 2 1 rfl)) ?_
    refine sq 21 rfl rfl (Y_load1 (B := some ⟨b, 0, none⟩) (i := 2) (cs := [.int .i64 A, .int .i64 B, .int .i64 C, .int .i64 D]) (v := .int .i64 C) k_sc_3 rfl rfl (hS3.cf (i := 0) rfl) rfl) ?_
    refine sq 22 rfl rfl (Y_buildS (zs := [.int .i64 0, .int .i64 0, .int .i64 0, .int .i64 0]) (vs := [(0, .int .i64 (IntKind.i64.wrap (-D))), (1, .int .i64 A), (2, .int .i64 B), (3, .int .i64 C)]) (cs := [.int .i64 (IntKind.i64.wrap (-D)), .int .i64 A, .int .i64 B, .int .i64 C]) k_pl_89 k_zero_89 rfl (mpc rfl (mpc rfl (mpc rfl (mpc rfl mpn)))) rfl) ?_
    refine ss0 rfl rfl (Ys_store (i := 0) (s := 4) (B := some ⟨b, 0, none⟩) (T' := 89) (v := .agg #[.int .i64 (IntKind.i64.wrap (-D)), .int .i64 A, .int .i64 B, .int .i64 C]) (vs := [.int .i64 (IntKind.i64.wrap (-D)), .int .i64 A, .int .i64 B, .int .i64 C]) (k := 0) (cs' := [.int .i64 (IntKind.i64.wrap (-D)), .int .i64 A, .int .i64 B, .int .i64 C]) hS3 k_sz_89_4 rfl (hf.get 2 1 rfl) rfl rfl rfl rfl rfl (Nat.le_of_ble_eq_true rfl) rfl rfl) ?_
    rintro _ w_2 ⟨rfl, hS4⟩
    have hS4 : ST w0 [] _ [⟨some ⟨b, 0, none⟩, 89, [.int .i64 (IntKind.i64.wrap (-D)), .int .i64 A, .int .i64 B, .int .i64 C], 4⟩, ⟨some ⟨b1, 0, none⟩, 89, [.int .i64 0, .int .i64 0, .int .i64 0, .int .i64 0], 4⟩] [] := hS4
    refine rw_nil ?_
    refine cw_region ?_
    refine sq 11 rfl rfl (Y_move (v := .int .i64 k_1) rfl (hf.get 1 0 rfl)) ?_
    refine sq 12 rfl rfl (Y_sub (k := .i64) (a := k_1) (b := 1) rfl rfl rfl) ?_
    refine sq 1 rfl rfl (Y_assign (v := .int .i64 (IntKind.i64.wrap (k_1 - 1))) rfl rfl) ?_
    refine rw_nil ?_
    obtain rfl := some_inj hF2
    exact ⟨k_3, Nat.lt_succ_self _, (IntKind.i64.wrap (k_1 - 1)), (IntKind.i64.wrap (-D)), A, B, C, (FF.cons rfl (FF.cons (hf.get 2 1 rfl) (FF.cons (hf.get 4 2 rfl) FF.nil))), (hS4.sel [0, 1] rfl rfl), hL1⟩
  · skip
    have hF3 := cf' hb hb1
    refine cw_exit rfl ?_
    obtain rfl := some_inj hF3
    obtain rfl := some_inj hL1
    refine cw_seq ?_
    refine cw_region ?_
    refine sq 23 rfl rfl (Y_loadA (B := some ⟨b, 0, none⟩) (i := 0) (cs := [.int .i64 A, .int .i64 B, .int .i64 C, .int .i64 D]) (vs := [.int .i64 A, .int .i64 B, .int .i64 C, .int .i64 D]) k_ag_89 k_sz_89_4 rfl (hf.get 2 1 rfl) (hS3.cf (i := 0) rfl) rfl rfl) ?_
    refine ss0 rfl rfl (Ys_store (i := 1) (s := 4) (B := some ⟨b1, 0, none⟩) (T' := 89) (v := .agg #[.int .i64 A, .int .i64 B, .int .i64 C, .int .i64 D]) (vs := [.int .i64 A, .int .i64 B, .int .i64 C, .int .i64 D]) (k := 0) (cs' := [.int .i64 A, .int .i64 B, .int .i64 C, .int .i64 D]) hS3 k_sz_89_4 rfl (hf.get 4 2 rfl) rfl rfl rfl rfl rfl (Nat.le_of_ble_eq_true rfl) rfl rfl) ?_
    rintro _ w_3 ⟨rfl, hS5⟩
    have hS5 : ST w0 [] _ [⟨some ⟨b, 0, none⟩, 89, [.int .i64 A, .int .i64 B, .int .i64 C, .int .i64 D], 4⟩, ⟨some ⟨b1, 0, none⟩, 89, [.int .i64 A, .int .i64 B, .int .i64 C, .int .i64 D], 4⟩] [] := hS5
    refine rw_nil ?_
    refine cw_ret ?_
    obtain rfl := some_inj hF1
    exact ret1 Try.results183 (v1 := .agg #[.int .i64 A, .int .i64 B, .int .i64 C, .int .i64 D]) (resAt_cellA (B := some ⟨b1, 0, none⟩) (i := 0) (cs := [.int .i64 A, .int .i64 B, .int .i64 C, .int .i64 D]) (vs := [.int .i64 A, .int .i64 B, .int .i64 C, .int .i64 D]) (hf.get 4 2 rfl) k_ag_89 k_sz_89_4 (hS5.cf (i := 1) rfl) rfl rfl) ⟨rfl, (ST.subR (R' := []) (hS5.sel [] rfl rfl) (fun _ h => by cases h))⟩

theorem c_spec_l2Power (k_ : Int)  (w0 : World)  (hS : ST w0 [] w0 [] []) {r_ : TDyadic} (hF : F_spec_l2Power k_ = some r_) :
    CV Try.prog 131 #[.int .i64 k_] w0 (fun v w' => v = .agg #[.int .i64 r_.Num.A, .int .i64 r_.Num.B, .int .i64 r_.Num.C, .int .i64 r_.Num.D, .int .i64 r_.Exp] ∧ ST w0 [] w' [] []) := by
  unfold F_spec_l2Power at hF
  refine cv_of_cw 7 Try.func131 rfl Try.ntmps131 rfl ?_
  refine cw_seq ?_
  refine cw_region ?_
  refine ss 2 rfl rfl (Ys_alloc (T := 91) (cs := [.int .i64 0, .int .i64 0, .int .i64 0, .int .i64 0, .int .i64 0]) (m := 5) hS k_zero_91 rfl rfl rfl) ?_
  rintro _ w_ ⟨b, rfl, hS1⟩
  refine rw_nil ?_
  refine cw_seq ?_
  refine cw_region ?_
  refine sq 3 rfl rfl (Y_buildS (zs := [.int .i64 0, .int .i64 0, .int .i64 0, .int .i64 0]) (vs := [(0, .int .i64 1)]) (cs := [.int .i64 1, .int .i64 0, .int .i64 0, .int .i64 0]) k_pl_89 k_zero_89 rfl (mpc rfl mpn) rfl) ?_
  refine sq 4 rfl rfl (Y_move (v := .int .i64 k_) rfl rfl) ?_
  obtain ⟨r_1, hc, hF⟩ := bind_inv hF
  refine sc 5 rfl rfl (Yc_func (g := 183) (vs := [.agg #[.int .i64 1, .int .i64 0, .int .i64 0, .int .i64 0], .int .i64 k_]) k_call_183 rfl (mc rfl (mc rfl mn)) (c_spec_l1Turn (TRing.mk 1 0 0 0) k_ _  (hS1.inn0 [] rfl) hc)) ?_
  rintro _ w_1 ⟨rfl, hd⟩
  have hS2 := hS1.out00 hd
  refine sq 6 rfl rfl (Y_buildS (zs := [.int .i64 0, .int .i64 0, .int .i64 0, .int .i64 0, .int .i64 0]) (vs := [(0, .agg #[.int .i64 r_1.A, .int .i64 r_1.B, .int .i64 r_1.C, .int .i64 r_1.D])]) (cs := [.int .i64 r_1.A, .int .i64 r_1.B, .int .i64 r_1.C, .int .i64 r_1.D, .int .i64 0]) k_pl_91 k_zero_91 rfl (mpc rfl mpn) rfl) ?_
  refine ss0 rfl rfl (Ys_store (i := 0) (s := 5) (B := some ⟨b, 0, none⟩) (T' := 91) (v := .agg #[.int .i64 r_1.A, .int .i64 r_1.B, .int .i64 r_1.C, .int .i64 r_1.D, .int .i64 0]) (vs := [.int .i64 r_1.A, .int .i64 r_1.B, .int .i64 r_1.C, .int .i64 r_1.D, .int .i64 0]) (k := 0) (cs' := [.int .i64 r_1.A, .int .i64 r_1.B, .int .i64 r_1.C, .int .i64 r_1.D, .int .i64 0]) hS2 k_sz_91_5 rfl rfl rfl rfl rfl rfl rfl (Nat.le_of_ble_eq_true rfl) rfl rfl) ?_
  rintro _ w_2 ⟨rfl, hS3⟩
  refine rw_nil ?_
  refine cw_ret ?_
  obtain rfl := some_inj hF
  exact ret1 Try.results131 (v1 := .agg #[.int .i64 r_1.A, .int .i64 r_1.B, .int .i64 r_1.C, .int .i64 r_1.D, .int .i64 0]) (resAt_cellA (B := some ⟨b, 0, none⟩) (i := 0) (cs := [.int .i64 r_1.A, .int .i64 r_1.B, .int .i64 r_1.C, .int .i64 r_1.D, .int .i64 0]) (vs := [.int .i64 r_1.A, .int .i64 r_1.B, .int .i64 r_1.C, .int .i64 r_1.D, .int .i64 0]) rfl k_ag_91 k_sz_91_5 (hS3.cf (i := 0) rfl) rfl rfl) ⟨rfl, (ST.subR (R' := []) (hS3.sel [] rfl rfl) (fun _ h => by cases h))⟩

theorem c_spec_l3Unit (n : Int)  (w0 : World)  (hS : ST w0 [] w0 [] []) {r_ : TMatrix} (hF : F_spec_l3Unit n = some r_) :
    CV Try.prog 98 #[.int .i64 n] w0 (fun v w' => ∃ (B : Option Addr) (c : Nat), v = .agg #[.int .i64 r_.Rows, .int .i64 r_.Cols, .slice B r_.Cells.length c] ∧ ST w0 [] w' [⟨B, 91, (r_.Cells.flatMap enc_Dyadic), c * 5⟩] []) := by
  unfold F_spec_l3Unit at hF
  refine cv_of_cw 27 Try.func98 rfl Try.ntmps98 rfl ?_
  refine cw_seq ?_
  refine cw_region ?_
  refine ss 2 rfl rfl (Ys_alloc (T := 62) (cs := [.int .i64 0, .int .i64 0, .slice none 0 0]) (m := 3) hS k_zero_62 rfl rfl rfl) ?_
  rintro _ w_ ⟨b, rfl, hS1⟩
  refine rw_nil ?_
  refine cw_seq ?_
  refine cw_region ?_
  refine sq 5 rfl rfl (Y_move (v := .int .i64 n) rfl rfl) ?_
  refine sq 6 rfl rfl (Y_move (v := .int .i64 n) rfl rfl) ?_
  refine sq 7 rfl rfl (Y_move (v := .int .i64 n) rfl rfl) ?_
  refine sq 8 rfl rfl (Y_move (v := .int .i64 n) rfl rfl) ?_
  refine sq 9 rfl rfl (Y_mul (k := .i64) (a := n) (b := n) rfl rfl rfl) ?_
  obtain ⟨hmk, hF⟩ := chk_inv hF
  refine ss 10 rfl rfl (Ys_make (s := 5) (by' := 40) (nn := (IntKind.i64.wrap (n * n)).toNat) (a := (IntKind.i64.wrap (n * n))) (b := (IntKind.i64.wrap (n * n))) (cs := ((List.replicate ((IntKind.i64.wrap (n * n)).toNat) (TDyadic.mk (TRing.mk 0 0 0 0) 0)).flatMap enc_Dyadic)) hS1 k_sl_27_91 k_sz_91_5 k_by_91_40 k_zero_91 rfl rfl rfl rfl hmk.1 rfl (by have := hmk; omega) (by have := hmk; omega) (by omega) (fm_rep (enc := enc_Dyadic) (d := (TDyadic.mk (TRing.mk 0 0 0 0) 0)) rfl _)) ?_
  rintro _ w_1 ⟨b1, rfl, hS2⟩
  have hS2 : ST w0 [] _ [⟨some ⟨b, 0, none⟩, 62, [.int .i64 0, .int .i64 0, .slice none 0 0], 3⟩, ⟨some ⟨b1, 0, none⟩, 91, ((List.replicate ((IntKind.i64.wrap (n * n)).toNat) (TDyadic.mk (TRing.mk 0 0 0 0) 0)).flatMap enc_Dyadic), ((IntKind.i64.wrap (n * n)).toNat) * 5⟩] [] := hS2
  refine sq 11 rfl rfl (Y_buildS (zs := [.int .i64 0, .int .i64 0, .slice none 0 0]) (vs := [(0, .int .i64 n), (1, .int .i64 n), (2, .slice (some ⟨b1, 0, none⟩) ((IntKind.i64.wrap (n * n)).toNat) ((IntKind.i64.wrap (n * n)).toNat))]) (cs := [.int .i64 n, .int .i64 n, .slice (some ⟨b1, 0, none⟩) ((IntKind.i64.wrap (n * n)).toNat) ((IntKind.i64.wrap (n * n)).toNat)]) k_pl_62 k_zero_62 rfl (mpc rfl (mpc rfl (mpc rfl mpn))) rfl) ?_
  refine ss 3 rfl rfl (Ys_alloc (T := 62) (cs := [.int .i64 0, .int .i64 0, .slice none 0 0]) (m := 3) hS2 k_zero_62 rfl rfl rfl) ?_
  rintro _ w_2 ⟨b2, rfl, hS3⟩
  have hS3 : ST w0 [] _ [⟨some ⟨b, 0, none⟩, 62, [.int .i64 0, .int .i64 0, .slice none 0 0], 3⟩, ⟨some ⟨b1, 0, none⟩, 91, ((List.replicate ((IntKind.i64.wrap (n * n)).toNat) (TDyadic.mk (TRing.mk 0 0 0 0) 0)).flatMap enc_Dyadic), ((IntKind.i64.wrap (n * n)).toNat) * 5⟩, ⟨some ⟨b2, 0, none⟩, 62, [.int .i64 0, .int .i64 0, .slice none 0 0], 3⟩] [] := hS3
  refine ss0 rfl rfl (Ys_store (i := 2) (s := 3) (B := some ⟨b2, 0, none⟩) (T' := 62) (v := .agg #[.int .i64 n, .int .i64 n, .slice (some ⟨b1, 0, none⟩) ((IntKind.i64.wrap (n * n)).toNat) ((IntKind.i64.wrap (n * n)).toNat)]) (vs := [.int .i64 n, .int .i64 n, .slice (some ⟨b1, 0, none⟩) ((IntKind.i64.wrap (n * n)).toNat) ((IntKind.i64.wrap (n * n)).toNat)]) (k := 0) (cs' := [.int .i64 n, .int .i64 n, .slice (some ⟨b1, 0, none⟩) ((IntKind.i64.wrap (n * n)).toNat) ((IntKind.i64.wrap (n * n)).toNat)]) hS3 k_sz_62_3 rfl rfl rfl rfl rfl rfl rfl (Nat.le_of_ble_eq_true rfl) rfl rfl) ?_
  rintro _ w_3 ⟨rfl, hS4⟩
  have hS4 : ST w0 [] _ [⟨some ⟨b, 0, none⟩, 62, [.int .i64 0, .int .i64 0, .slice none 0 0], 3⟩, ⟨some ⟨b1, 0, none⟩, 91, ((List.replicate ((IntKind.i64.wrap (n * n)).toNat) (TDyadic.mk (TRing.mk 0 0 0 0) 0)).flatMap enc_Dyadic), ((IntKind.i64.wrap (n * n)).toNat) * 5⟩, ⟨some ⟨b2, 0, none⟩, 62, [.int .i64 n, .int .i64 n, .slice (some ⟨b1, 0, none⟩) ((IntKind.i64.wrap (n * n)).toNat) ((IntKind.i64.wrap (n * n)).toNat)], 3⟩] [] := hS4
  refine rw_nil ?_
  refine cw_seq ?_
  refine cw_seq ?_
  refine cw_region ?_
  refine sq 4 rfl rfl (Y_assign (v := .int .i64 0) rfl rfl) ?_
  refine rw_nil ?_
  obtain ⟨hN, hF⟩ := chk_inv hF
  obtain ⟨z, hz, hF1⟩ := bind_inv hF
  refine cw_block ?_
  refine cw_loop (fun k f w => ∃ (i1 : Nat) (Cells : List TDyadic), FF f [(0, .int .i64 n), (2, pt (some ⟨b, 0, none⟩) 0), (3, pt (some ⟨b2, 0, none⟩) 0), (4, .int .i64 (i1 : Int))] ∧ Cells.length = (IntKind.i64.wrap (n * n)).toNat ∧ ST w0 [] w [⟨some ⟨b, 0, none⟩, 62, [.int .i64 0, .int .i64 0, .slice none 0 0], 3⟩, ⟨some ⟨b2, 0, none⟩, 62, [.int .i64 n, .int .i64 n, .slice (some ⟨b1, 0, none⟩) ((IntKind.i64.wrap (n * n)).toNat) ((IntKind.i64.wrap (n * n)).toNat)], 3⟩, ⟨some ⟨b1, 0, none⟩, 91, (Cells.flatMap enc_Dyadic), ((IntKind.i64.wrap (n * n)).toNat) * 5⟩] [] ∧ i1 + k = n.toNat ∧ forN (F_spec_l3Unit_l1 n) k i1 Cells = some z) n.toNat ⟨0, (List.replicate ((IntKind.i64.wrap (n * n)).toNat) (TDyadic.mk (TRing.mk 0 0 0 0) 0)), (FF.cons rfl (FF.cons rfl (FF.cons rfl (FF.cons rfl FF.nil)))), List.length_replicate, (hS4.sel [0, 2, 1] rfl rfl), Nat.zero_add _, hz⟩ ?_
  rintro k_ f w ⟨i1, Cells, hf, hl, hS5, hik, hL⟩
  refine cw_seq ?_
  refine cw_seq ?_
  refine cw_region ?_
  refine sq 12 rfl rfl (Y_move (v := .int .i64 (i1 : Int)) rfl (hf.get 4 3 rfl)) ?_
  refine sq 13 rfl rfl (Y_move (v := .int .i64 n) rfl (hf.get 0 0 rfl)) ?_
  refine sq 14 rfl rfl (Y_lt (k := .i64) (a := (i1 : Int)) (b := n) rfl rfl rfl) ?_
  refine rw_nil ?_
  refine cw_cond (b := (decide ((i1 : Int) < n))) rfl (fun hlt => ?_) (fun hlt => ?_)
  · skip
    have hlt1 : i1 < n.toNat := by have h := of_decide_eq_true hlt; omega
    obtain ⟨k_1, rfl⟩ : ∃ k2, k_ = k2 + 1 := ⟨k_ - 1, by omega⟩
    obtain ⟨y, hb, hL1⟩ := forN_go hL
    unfold F_spec_l3Unit_l1 at hb
    refine cw_skip ?_
    refine cw_seq ?_
    refine cw_block ?_
    obtain ⟨r_1, hc, hb⟩ := bind_inv hb
    obtain ⟨x, hx, hb⟩ := bind_inv hb
    refine ra_start (ST.sel hS5 [0, 1] rfl rfl).fn (by kernel_rfl) ?_
    have hS7 := hS5.drew
    refine ra_q 0 17 (v := pt (some ⟨b2, 0, none⟩) 2) rfl rfl rfl (by kernel_rfl) (by kernel_rfl) (by kernel_rfl) (ST.sel hS7 [0, 1] rfl rfl) (fun w' hw' => (Y_fieldAddr (B := some ⟨b2, 0, none⟩) (i := 0) (s := 0) k_fd_62_2_2_27 k_sz_27_1 rfl (hf.get 3 2 rfl))) ?_
    refine ra_q 1 18 (v := .slice (some ⟨b1, 0, none⟩) ((IntKind.i64.wrap (n * n)).toNat) ((IntKind.i64.wrap (n * n)).toNat)) rfl rfl rfl (by kernel_rfl) (by kernel_rfl) (by kernel_rfl) (ST.sel hS7 [0, 1] rfl rfl) (fun w' hw' => (Y_load1 (B := some ⟨b2, 0, none⟩) (i := 2) (cs := [.int .i64 n, .int .i64 n, .slice (some ⟨b1, 0, none⟩) ((IntKind.i64.wrap (n * n)).toNat) ((IntKind.i64.wrap (n * n)).toNat)]) (v := .slice (some ⟨b1, 0, none⟩) ((IntKind.i64.wrap (n * n)).toNat) ((IntKind.i64.wrap (n * n)).toNat)) k_sc_27 rfl rfl (ST.cf hw' (i := 1) rfl) rfl)) ?_
    refine ra_q 2 19 (v := .int .i64 (i1 : Int)) rfl rfl rfl (by kernel_rfl) (by kernel_rfl) (by kernel_rfl) (ST.sel hS7 [0, 1] rfl rfl) (fun w' hw' => (Y_move (v := .int .i64 (i1 : Int)) rfl (hf.get 4 3 rfl))) ?_
    refine ra_q 3 20 (v := .int .i64 n) rfl rfl rfl (by kernel_rfl) (by kernel_rfl) (by kernel_rfl) (ST.sel hS7 [0, 1] rfl rfl) (fun w' hw' => (Y_move (v := .int .i64 n) rfl (hf.get 0 0 rfl))) ?_
    refine ra_q 4 21 (v := .int .i64 (IntKind.i64.wrap ((i1 : Int) * n))) rfl rfl rfl (by kernel_rfl) (by kernel_rfl) (by kernel_rfl) (ST.sel hS7 [0, 1] rfl rfl) (fun w' hw' => (Y_mul (k := .i64) (a := (i1 : Int)) (b := n) rfl rfl rfl)) ?_
    refine ra_q 5 22 (v := .int .i64 (i1 : Int)) rfl rfl rfl (by kernel_rfl) (by kernel_rfl) (by kernel_rfl) (ST.sel hS7 [0, 1] rfl rfl) (fun w' hw' => (Y_move (v := .int .i64 (i1 : Int)) rfl (hf.get 4 3 rfl))) ?_
    refine ra_q 6 23 (v := .int .i64 (IntKind.i64.wrap ((IntKind.i64.wrap ((i1 : Int) * n)) + (i1 : Int)))) rfl rfl rfl (by kernel_rfl) (by kernel_rfl) (by kernel_rfl) (ST.sel hS7 [0, 1] rfl rfl) (fun w' hw' => (Y_add (k := .i64) (a := (IntKind.i64.wrap ((i1 : Int) * n))) (b := (i1 : Int)) rfl rfl rfl)) ?_
    refine ra_all (rs := [7]) (by kernel_rfl) rfl ?_
    refine ra_c 24 (i := 7) rfl rfl rfl (Yc_func (g := 131) (vs := [.int .i64 0]) k_call_131 rfl (mc rfl mn) (c_spec_l2Power 0 _  (hS7.inn0 [] rfl) hc)) ?_ ?_
    · rintro _ w_4 ⟨rfl, hd⟩
      have hS8 := hS7.out00 hd
      have hS8 : ST w0 [] _ [⟨some ⟨b, 0, none⟩, 62, [.int .i64 0, .int .i64 0, .slice none 0 0], 3⟩, ⟨some ⟨b2, 0, none⟩, 62, [.int .i64 n, .int .i64 n, .slice (some ⟨b1, 0, none⟩) ((IntKind.i64.wrap (n * n)).toNat) ((IntKind.i64.wrap (n * n)).toNat)], 3⟩, ⟨some ⟨b1, 0, none⟩, 91, (Cells.flatMap enc_Dyadic), ((IntKind.i64.wrap (n * n)).toNat) * 5⟩] [] := hS8
      refine ⟨(ST.sel hS8 [0, 1] rfl rfl), ?_⟩
      refine ra_all (rs := [8]) (by kernel_rfl) rfl ?_
      refine ra_y 25 (i := 8) (v := pt (some ⟨b1, 0, none⟩) ((IntKind.i64.wrap ((IntKind.i64.wrap ((i1 : Int) * n)) + (i1 : Int))).toNat * 5)) rfl rfl rfl (Y_index (B := some ⟨b1, 0, none⟩) (m := (IntKind.i64.wrap (n * n)).toNat) (c := (IntKind.i64.wrap (n * n)).toNat) (k := .i64) (i := (IntKind.i64.wrap ((IntKind.i64.wrap ((i1 : Int) * n)) + (i1 : Int)))) k_sl_27_91 k_sz_91_5 rfl rfl rfl (gi_isSome enc_Dyadic_len rfl (hS8.cf (i := 2) rfl) hx) (getI_nn hx) (getI_ltI hx hl)) (ST.sel hS8 [0, 1] rfl rfl) ?_ ?_
      · skip
        refine ra_all (rs := [9]) (by kernel_rfl) rfl ?_
        refine ra_s0 (i := 9) rfl rfl rfl (Ys_store (i := 2) (s := 5) (B := some ⟨b1, 0, none⟩) (T' := 91) (v := .agg #[.int .i64 r_1.Num.A, .int .i64 r_1.Num.B, .int .i64 r_1.Num.C, .int .i64 r_1.Num.D, .int .i64 r_1.Exp]) (vs := [.int .i64 r_1.Num.A, .int .i64 r_1.Num.B, .int .i64 r_1.Num.C, .int .i64 r_1.Num.D, .int .i64 r_1.Exp]) (k := (IntKind.i64.wrap ((IntKind.i64.wrap ((i1 : Int) * n)) + (i1 : Int))).toNat * 5) (cs' := ((Cells.set (IntKind.i64.wrap ((IntKind.i64.wrap ((i1 : Int) * n)) + (i1 : Int))).toNat r_1).flatMap enc_Dyadic)) hS8 k_sz_91_5 rfl rfl rfl rfl rfl rfl rfl (gi_fit0 enc_Dyadic_len hx) (gi_set enc_Dyadic_len hx r_1 rfl) rfl) ?_ ?_
        · rintro _ w_5 ⟨rfl, hS9⟩
          have hS9 : ST w0 [] _ [⟨some ⟨b, 0, none⟩, 62, [.int .i64 0, .int .i64 0, .slice none 0 0], 3⟩, ⟨some ⟨b2, 0, none⟩, 62, [.int .i64 n, .int .i64 n, .slice (some ⟨b1, 0, none⟩) ((IntKind.i64.wrap (n * n)).toNat) ((IntKind.i64.wrap (n * n)).toNat)], 3⟩, ⟨some ⟨b1, 0, none⟩, 91, ((Cells.set (IntKind.i64.wrap ((IntKind.i64.wrap ((i1 : Int) * n)) + (i1 : Int))).toNat r_1).flatMap enc_Dyadic), ((IntKind.i64.wrap (n * n)).toNat) * 5⟩] [] := hS9
          refine ⟨(ST.sel hS9 [0, 1] rfl rfl), ?_⟩
          refine ra_done (by kernel_rfl) ?_
          refine cw_region ?_
          refine sq 15 rfl rfl (Y_move (v := .int .i64 (i1 : Int)) rfl (hf.get 4 3 rfl)) ?_
          refine sq 16 rfl rfl (Y_add (k := .i64) (a := (i1 : Int)) (b := 1) rfl rfl rfl) ?_
          refine sq 4 rfl rfl (Y_assign (v := .int .i64 (IntKind.i64.wrap ((i1 : Int) + 1))) rfl rfl) ?_
          refine rw_nil ?_
          obtain rfl := some_inj hb
          exact ⟨k_1, Nat.lt_succ_self _, i1 + 1, (Cells.set (IntKind.i64.wrap ((IntKind.i64.wrap ((i1 : Int) * n)) + (i1 : Int))).toNat r_1), (FF.cons (hf.get 0 0 rfl) (FF.cons (hf.get 2 1 rfl) (FF.cons (hf.get 3 2 rfl) (FF.cons (congrArg (Value.int .i64) (wr_succ hlt1 hN)) FF.nil)))), (set_len _ _ _ hl), (hS9.sel [0, 1, 2] rfl rfl), (by omega), hL1⟩
        exact allR_nil
      exact allR_nil
    exact allR_nil
  · skip
    obtain rfl : k_ = 0 := by have h := of_decide_eq_false hlt; omega
    refine cw_exit rfl ?_
    obtain rfl := some_inj hL
    refine cw_seq ?_
    refine cw_region ?_
    refine sq 26 rfl rfl (Y_loadA (B := some ⟨b2, 0, none⟩) (i := 0) (cs := [.int .i64 n, .int .i64 n, .slice (some ⟨b1, 0, none⟩) ((IntKind.i64.wrap (n * n)).toNat) ((IntKind.i64.wrap (n * n)).toNat)]) (vs := [.int .i64 n, .int .i64 n, .slice (some ⟨b1, 0, none⟩) ((IntKind.i64.wrap (n * n)).toNat) ((IntKind.i64.wrap (n * n)).toNat)]) k_ag_62 k_sz_62_3 rfl (hf.get 3 2 rfl) (hS5.cf (i := 1) rfl) rfl rfl) ?_
    refine ss0 rfl rfl (Ys_store (i := 0) (s := 3) (B := some ⟨b, 0, none⟩) (T' := 62) (v := .agg #[.int .i64 n, .int .i64 n, .slice (some ⟨b1, 0, none⟩) ((IntKind.i64.wrap (n * n)).toNat) ((IntKind.i64.wrap (n * n)).toNat)]) (vs := [.int .i64 n, .int .i64 n, .slice (some ⟨b1, 0, none⟩) ((IntKind.i64.wrap (n * n)).toNat) ((IntKind.i64.wrap (n * n)).toNat)]) (k := 0) (cs' := [.int .i64 n, .int .i64 n, .slice (some ⟨b1, 0, none⟩) ((IntKind.i64.wrap (n * n)).toNat) ((IntKind.i64.wrap (n * n)).toNat)]) hS5 k_sz_62_3 rfl (hf.get 2 1 rfl) rfl rfl rfl rfl rfl (Nat.le_of_ble_eq_true rfl) rfl rfl) ?_
    rintro _ w_6 ⟨rfl, hS10⟩
    have hS10 : ST w0 [] _ [⟨some ⟨b, 0, none⟩, 62, [.int .i64 n, .int .i64 n, .slice (some ⟨b1, 0, none⟩) ((IntKind.i64.wrap (n * n)).toNat) ((IntKind.i64.wrap (n * n)).toNat)], 3⟩, ⟨some ⟨b2, 0, none⟩, 62, [.int .i64 n, .int .i64 n, .slice (some ⟨b1, 0, none⟩) ((IntKind.i64.wrap (n * n)).toNat) ((IntKind.i64.wrap (n * n)).toNat)], 3⟩, ⟨some ⟨b1, 0, none⟩, 91, (Cells.flatMap enc_Dyadic), ((IntKind.i64.wrap (n * n)).toNat) * 5⟩] [] := hS10
    refine rw_nil ?_
    refine cw_ret ?_
    obtain rfl := some_inj hF1
    exact ret1 Try.results98 (v1 := .agg #[.int .i64 n, .int .i64 n, .slice (some ⟨b1, 0, none⟩) ((IntKind.i64.wrap (n * n)).toNat) ((IntKind.i64.wrap (n * n)).toNat)]) (resAt_cellA (B := some ⟨b, 0, none⟩) (i := 0) (cs := [.int .i64 n, .int .i64 n, .slice (some ⟨b1, 0, none⟩) ((IntKind.i64.wrap (n * n)).toNat) ((IntKind.i64.wrap (n * n)).toNat)]) (vs := [.int .i64 n, .int .i64 n, .slice (some ⟨b1, 0, none⟩) ((IntKind.i64.wrap (n * n)).toNat) ((IntKind.i64.wrap (n * n)).toNat)]) (hf.get 2 1 rfl) k_ag_62 k_sz_62_3 (hS10.cf (i := 0) rfl) rfl rfl) ⟨some ⟨b1, 0, none⟩, (IntKind.i64.wrap (n * n)).toNat, (by simp [hl]), (ST.subR (R' := []) (hS10.sel [2] rfl rfl) (fun _ h => by cases h))⟩

theorem c_spec_IsUnitary (m : TMatrix) (B : Option Addr) (c n : Nat) (w0 : World) (hn : m.Cells.length = n) (hS : ST w0 [] w0 [] [⟨B, (m.Cells.flatMap enc_Dyadic)⟩]) {r_ : Bool} {r_1 : Bool} (hF : F_spec_IsUnitary m = some (r_, r_1)) :
    CV Try.prog 35 #[.agg #[.int .i64 m.Rows, .int .i64 m.Cols, .slice B n c]] w0 (fun v w' => v = .tuple #[.bool r_, .bool r_1] ∧ ST w0 [] w' [] []) := by
  subst hn
  unfold F_spec_IsUnitary at hF
  refine cv_of_cw 32 Try.func35 rfl Try.ntmps35 rfl ?_
  refine cw_seq ?_
  refine cw_region ?_
  refine ss 1 rfl rfl (Ys_box (T := 62) (v := .agg #[.int .i64 m.Rows, .int .i64 m.Cols, .slice B m.Cells.length c]) (cs := [.int .i64 m.Rows, .int .i64 m.Cols, .slice B m.Cells.length c]) (m := 3) hS rfl rfl rfl rfl) ?_
  rintro _ w_ ⟨b, rfl, hS1⟩
  refine sq 2 rfl rfl (Y_assign (v := .bool false) rfl rfl) ?_
  refine sq 3 rfl rfl (Y_assign (v := .bool false) rfl rfl) ?_
  refine rw_nil ?_
  refine cw_seq ?_
  refine cw_seq ?_
  refine cw_region ?_
  refine sq 6 rfl rfl (Y_loadA (B := some ⟨b, 0, none⟩) (i := 0) (cs := [.int .i64 m.Rows, .int .i64 m.Cols, .slice B m.Cells.length c]) (vs := [.int .i64 m.Rows, .int .i64 m.Cols, .slice B m.Cells.length c]) k_ag_62 k_sz_62_3 rfl rfl (hS1.cf (i := 0) rfl) rfl rfl) ?_
  obtain ⟨r_2, hc, hF⟩ := bind_inv hF
  refine sc 7 rfl rfl (Yc_func (g := 94) (vs := [.agg #[.int .i64 m.Rows, .int .i64 m.Cols, .slice B m.Cells.length c]]) k_call_94 rfl (mc rfl mn) (c_spec_l3Good m B c m.Cells.length _ rfl (hS1.inn0 [(true, 0)] rfl) hc)) ?_
  rintro _ w_1 ⟨rfl, hd⟩
  have hS2 := hS1.out00 hd
  refine sq 8 rfl rfl (Y_not (p := r_2) rfl rfl) ?_
  refine sq 9 rfl rfl (Y_move (v := .bool (!r_2)) rfl rfl) ?_
  refine sgq 10 (B := (!(!r_2))) (v := pt (some ⟨b, 0, none⟩) 0) rfl rfl (wt_f (gd_of (t := 9) (by kernel_rfl) rfl)) (fun hg => (Y_fieldAddr (B := some ⟨b, 0, none⟩) (i := 0) (s := 0) k_fd_62_0_0_3 k_sz_3_1 rfl rfl)) ?_
  refine sgq 11 (B := (!(!r_2))) (v := .int .i64 m.Rows) rfl rfl (wt_f (gd_of (t := 9) (by kernel_rfl) rfl)) (fun hg1 => (Y_load1 (B := some ⟨b, 0, none⟩) (i := 0) (cs := [.int .i64 m.Rows, .int .i64 m.Cols, .slice B m.Cells.length c]) (v := .int .i64 m.Rows) k_sc_3 rfl (gv_of (B := (!(!r_2))) (v := pt (some ⟨b, 0, none⟩) 0) hg1) (hS2.cf (i := 0) rfl) rfl)) ?_
  refine sgq 12 (B := (!(!r_2))) (v := pt (some ⟨b, 0, none⟩) 1) rfl rfl (wt_f (gd_of (t := 9) (by kernel_rfl) rfl)) (fun hg2 => (Y_fieldAddr (B := some ⟨b, 0, none⟩) (i := 0) (s := 0) k_fd_62_1_1_3 k_sz_3_1 rfl rfl)) ?_
  refine sgq 13 (B := (!(!r_2))) (v := .int .i64 m.Cols) rfl rfl (wt_f (gd_of (t := 9) (by kernel_rfl) rfl)) (fun hg3 => (Y_load1 (B := some ⟨b, 0, none⟩) (i := 1) (cs := [.int .i64 m.Rows, .int .i64 m.Cols, .slice B m.Cells.length c]) (v := .int .i64 m.Cols) k_sc_3 rfl (gv_of (B := (!(!r_2))) (v := pt (some ⟨b, 0, none⟩) 1) hg3) (hS2.cf (i := 0) rfl) rfl)) ?_
  refine sgq 14 (B := (!(!r_2))) (v := .bool (m.Rows != m.Cols)) rfl rfl (wt_f (gd_of (t := 9) (by kernel_rfl) rfl)) (fun hg4 => (Y_ne (k := .i64) (a := m.Rows) (b := m.Cols) rfl (gv_of (B := (!(!r_2))) (v := .int .i64 m.Rows) hg4) (gv_of (B := (!(!r_2))) (v := .int .i64 m.Cols) hg4))) ?_
  refine sq 15 rfl rfl (Y_or (b := (!r_2)) (z := (m.Rows != m.Cols)) rfl rfl rfl rfl) ?_
  refine rw_nil ?_
  refine cw_cond (b := ((!r_2) || (m.Rows != m.Cols))) rfl (fun hb => ?_) (fun hb => ?_)
  · skip
    have hF1 := ct hF hb
    refine cw_seq ?_
    refine cw_region ?_
    refine sq 2 rfl rfl (Y_assign (v := .bool false) rfl rfl) ?_
    refine sq 3 rfl rfl (Y_assign (v := .bool false) rfl rfl) ?_
    refine rw_nil ?_
    refine cw_ret ?_
    obtain ⟨rfl, rfl⟩ := pr2 (some_inj hF1)
    exact ret2 Try.results35 (v1 := .bool false) (resAt_tmp rfl) (v2 := .bool false) (resAt_tmp rfl) ⟨rfl, (ST.subR (R' := []) (hS2.sel [] rfl rfl) (fun _ h => by cases h))⟩
  · skip
    have hF2 := cf' hF hb
    refine cw_skip ?_
    refine cw_seq ?_
    refine cw_region ?_
    refine sq 16 rfl rfl (Y_buildS (zs := [.bool false]) (vs := []) (cs := [.bool false]) k_pl_126 k_zero_126 rfl mpn rfl) ?_
    refine ss 17 rfl rfl (Ys_box (T := 126) (v := .agg #[.bool false]) (cs := [.bool false]) (m := 1) hS2 rfl rfl rfl rfl) ?_
    rintro _ w_2 ⟨b1, rfl, hS3⟩
    have hS3 : ST w0 [] _ [⟨some ⟨b, 0, none⟩, 62, [.int .i64 m.Rows, .int .i64 m.Cols, .slice B m.Cells.length c], 3⟩, ⟨some ⟨b1, 0, none⟩, 126, [.bool false], 1⟩] [⟨B, (m.Cells.flatMap enc_Dyadic)⟩] := hS3
    refine sq 4 rfl rfl (Y_assign (v := pt (some ⟨b1, 0, none⟩) 0) rfl rfl) ?_
    refine rw_nil ?_
    refine cw_seq ?_
    obtain ⟨r_3, hc1, hF2⟩ := bind_inv hF2
    obtain ⟨⟨r_4, m1⟩, hc2, hF2⟩ := bind_inv hF2
    refine cw_mid (fun f w => ∃ (B3 : Option Addr) (B4 : Option Addr) (c3 : Nat), FF f [(1, pt (some ⟨b, 0, none⟩) 0), (4, pt (some ⟨b1, 0, none⟩) 0), (5, pt B3 0)] ∧ ST w0 [] w [⟨some ⟨b, 0, none⟩, 62, [.int .i64 m.Rows, .int .i64 m.Cols, .slice B m.Cells.length c], 3⟩, ⟨some ⟨b1, 0, none⟩, 126, [.bool m1.bad], 1⟩, ⟨B3, 62, [.int .i64 r_4.Rows, .int .i64 r_4.Cols, .slice B4 r_4.Cells.length c3], 3⟩, ⟨B4, 91, (r_4.Cells.flatMap enc_Dyadic), c3 * 5⟩] [⟨B, (m.Cells.flatMap enc_Dyadic)⟩]) ?_ ?_
    · skip
      refine ra_start (ST.sel hS3 [0] rfl rfl).fn (by kernel_rfl) ?_
      have hS7 := hS3.drew
      refine ra_q 0 18 (v := pt (some ⟨b1, 0, none⟩) 0) rfl rfl rfl (by kernel_rfl) (by kernel_rfl) (by kernel_rfl) (ST.sel hS7 [0] rfl rfl) (fun w' hw' => (Y_move (v := pt (some ⟨b1, 0, none⟩) 0) rfl rfl)) ?_
      refine ra_q 1 19 (v := .agg #[.int .i64 m.Rows, .int .i64 m.Cols, .slice B m.Cells.length c]) rfl rfl rfl (by kernel_rfl) (by kernel_rfl) (by kernel_rfl) (ST.sel hS7 [0] rfl rfl) (fun w' hw' => (Y_loadA (B := some ⟨b, 0, none⟩) (i := 0) (cs := [.int .i64 m.Rows, .int .i64 m.Cols, .slice B m.Cells.length c]) (vs := [.int .i64 m.Rows, .int .i64 m.Cols, .slice B m.Cells.length c]) k_ag_62 k_sz_62_3 rfl rfl (ST.cf hw' (i := 0) rfl) rfl rfl)) ?_
      refine ra_q 2 20 (v := .agg #[.int .i64 m.Rows, .int .i64 m.Cols, .slice B m.Cells.length c]) rfl rfl rfl (by kernel_rfl) (by kernel_rfl) (by kernel_rfl) (ST.sel hS7 [0] rfl rfl) (fun w' hw' => (Y_loadA (B := some ⟨b, 0, none⟩) (i := 0) (cs := [.int .i64 m.Rows, .int .i64 m.Cols, .slice B m.Cells.length c]) (vs := [.int .i64 m.Rows, .int .i64 m.Cols, .slice B m.Cells.length c]) k_ag_62 k_sz_62_3 rfl rfl (ST.cf hw' (i := 0) rfl) rfl rfl)) ?_
      refine ra_all (rs := [3, 5]) (by kernel_rfl) rfl ?_
      refine ra_c 21 (i := 3) rfl rfl rfl (Yc_func (g := 96) (vs := [.agg #[.int .i64 m.Rows, .int .i64 m.Cols, .slice B m.Cells.length c]]) k_call_96 rfl (mc rfl mn) (c_spec_l3Adj m B c m.Cells.length _ rfl (hS7.inn0 [(true, 0)] rfl) hc1)) ?_ ?_
      · rintro _ w_3 ⟨B1, c1, rfl, hd1⟩
        have hS8 := hS7.out0 hd1
        have hS8 : ST w0 [] _ [⟨some ⟨b, 0, none⟩, 62, [.int .i64 m.Rows, .int .i64 m.Cols, .slice B m.Cells.length c], 3⟩, ⟨some ⟨b1, 0, none⟩, 126, [.bool false], 1⟩, ⟨B1, 91, (r_3.Cells.flatMap enc_Dyadic), c1 * 5⟩] [⟨B, (m.Cells.flatMap enc_Dyadic)⟩] := hS8
        refine ⟨(ST.sel hS8 [0] rfl rfl), ?_⟩
        refine ra_all (rs := [4, 5]) (by kernel_rfl) rfl ?_
        refine ra_c 22 (i := 4) rfl rfl rfl (Yc_func (g := 95) (vs := [pt (some ⟨b1, 0, none⟩) 0, .agg #[.int .i64 m.Rows, .int .i64 m.Cols, .slice B m.Cells.length c], .agg #[.int .i64 r_3.Rows, .int .i64 r_3.Cols, .slice B1 r_3.Cells.length c1]]) k_call_95 rfl (mc rfl (mc rfl (mc rfl mn))) (c_spec_l2C_times (Tl2C.mk false) m r_3 (some ⟨b1, 0, none⟩) B c m.Cells.length B1 c1 r_3.Cells.length _ rfl rfl (hS8.inn [false, true, false] rfl [(true, 0), (false, 1)] rfl) hc2)) ?_ ?_
        · rintro _ w_4 ⟨B2, c2, rfl, hd2⟩
          have hS9 := hS8.out [false, true, false] rfl hd2
          have hS9 : ST w0 [] _ [⟨some ⟨b, 0, none⟩, 62, [.int .i64 m.Rows, .int .i64 m.Cols, .slice B m.Cells.length c], 3⟩, ⟨B1, 91, (r_3.Cells.flatMap enc_Dyadic), c1 * 5⟩, ⟨some ⟨b1, 0, none⟩, 126, [.bool m1.bad], 1⟩, ⟨B2, 91, (r_4.Cells.flatMap enc_Dyadic), c2 * 5⟩] [⟨B, (m.Cells.flatMap enc_Dyadic)⟩] := hS9
          refine ⟨(ST.sel hS9 [0] rfl rfl), ?_⟩
          refine ra_all (rs := [5]) (by kernel_rfl) rfl ?_
          refine ra_s 5 (i := 5) rfl rfl rfl (Ys_alloc (T := 62) (cs := [.int .i64 0, .int .i64 0, .slice none 0 0]) (m := 3) hS9 k_zero_62 rfl rfl rfl) ?_ ?_
          · rintro _ w_5 ⟨b2, rfl, hS10⟩
            have hS10 : ST w0 [] _ [⟨some ⟨b, 0, none⟩, 62, [.int .i64 m.Rows, .int .i64 m.Cols, .slice B m.Cells.length c], 3⟩, ⟨B1, 91, (r_3.Cells.flatMap enc_Dyadic), c1 * 5⟩, ⟨some ⟨b1, 0, none⟩, 126, [.bool m1.bad], 1⟩, ⟨B2, 91, (r_4.Cells.flatMap enc_Dyadic), c2 * 5⟩, ⟨some ⟨b2, 0, none⟩, 62, [.int .i64 0, .int .i64 0, .slice none 0 0], 3⟩] [⟨B, (m.Cells.flatMap enc_Dyadic)⟩] := hS10
            refine ⟨(ST.sel hS10 [0] rfl rfl), ?_⟩
            refine ra_all (rs := [6]) (by kernel_rfl) rfl ?_
            refine ra_s0 (i := 6) rfl rfl rfl (Ys_store (i := 4) (s := 3) (B := some ⟨b2, 0, none⟩) (T' := 62) (v := .agg #[.int .i64 r_4.Rows, .int .i64 r_4.Cols, .slice B2 r_4.Cells.length c2]) (vs := [.int .i64 r_4.Rows, .int .i64 r_4.Cols, .slice B2 r_4.Cells.length c2]) (k := 0) (cs' := [.int .i64 r_4.Rows, .int .i64 r_4.Cols, .slice B2 r_4.Cells.length c2]) hS10 k_sz_62_3 rfl rfl rfl rfl rfl rfl rfl (Nat.le_of_ble_eq_true rfl) rfl rfl) ?_ ?_
            · rintro _ w_6 ⟨rfl, hS11⟩
              have hS11 : ST w0 [] _ [⟨some ⟨b, 0, none⟩, 62, [.int .i64 m.Rows, .int .i64 m.Cols, .slice B m.Cells.length c], 3⟩, ⟨B1, 91, (r_3.Cells.flatMap enc_Dyadic), c1 * 5⟩, ⟨some ⟨b1, 0, none⟩, 126, [.bool m1.bad], 1⟩, ⟨B2, 91, (r_4.Cells.flatMap enc_Dyadic), c2 * 5⟩, ⟨some ⟨b2, 0, none⟩, 62, [.int .i64 r_4.Rows, .int .i64 r_4.Cols, .slice B2 r_4.Cells.length c2], 3⟩] [⟨B, (m.Cells.flatMap enc_Dyadic)⟩] := hS11
              refine ⟨(ST.sel hS11 [0] rfl rfl), ?_⟩
              refine ra_done (by kernel_rfl) ?_
              exact ⟨some ⟨b2, 0, none⟩, B2, c2, (FF.cons rfl (FF.cons rfl (FF.cons rfl FF.nil))), (hS11.sel [0, 2, 4, 3] rfl rfl)⟩
            exact allR_nil
          exact allR_nil
        refine ra_s 5 (i := 5) rfl rfl rfl (Ys_alloc (T := 62) (cs := [.int .i64 0, .int .i64 0, .slice none 0 0]) (m := 3) hS8 k_zero_62 rfl rfl rfl) ?_ ?_
        · rintro _ w_7 ⟨b2, rfl, hS12⟩
          have hS12 : ST w0 [] _ [⟨some ⟨b, 0, none⟩, 62, [.int .i64 m.Rows, .int .i64 m.Cols, .slice B m.Cells.length c], 3⟩, ⟨some ⟨b1, 0, none⟩, 126, [.bool false], 1⟩, ⟨B1, 91, (r_3.Cells.flatMap enc_Dyadic), c1 * 5⟩, ⟨some ⟨b2, 0, none⟩, 62, [.int .i64 0, .int .i64 0, .slice none 0 0], 3⟩] [⟨B, (m.Cells.flatMap enc_Dyadic)⟩] := hS12
          refine ⟨(ST.sel hS12 [0] rfl rfl), ?_⟩
          refine ra_all (rs := [4]) (by kernel_rfl) rfl ?_
          refine ra_c 22 (i := 4) rfl rfl rfl (Yc_func (g := 95) (vs := [pt (some ⟨b1, 0, none⟩) 0, .agg #[.int .i64 m.Rows, .int .i64 m.Cols, .slice B m.Cells.length c], .agg #[.int .i64 r_3.Rows, .int .i64 r_3.Cols, .slice B1 r_3.Cells.length c1]]) k_call_95 rfl (mc rfl (mc rfl (mc rfl mn))) (c_spec_l2C_times (Tl2C.mk false) m r_3 (some ⟨b1, 0, none⟩) B c m.Cells.length B1 c1 r_3.Cells.length _ rfl rfl (hS12.inn [false, true, false, false] rfl [(true, 0), (false, 1)] rfl) hc2)) ?_ ?_
          · rintro _ w_8 ⟨B2, c2, rfl, hd3⟩
            have hS13 := hS12.out [false, true, false, false] rfl hd3
            have hS13 : ST w0 [] _ [⟨some ⟨b, 0, none⟩, 62, [.int .i64 m.Rows, .int .i64 m.Cols, .slice B m.Cells.length c], 3⟩, ⟨B1, 91, (r_3.Cells.flatMap enc_Dyadic), c1 * 5⟩, ⟨some ⟨b2, 0, none⟩, 62, [.int .i64 0, .int .i64 0, .slice none 0 0], 3⟩, ⟨some ⟨b1, 0, none⟩, 126, [.bool m1.bad], 1⟩, ⟨B2, 91, (r_4.Cells.flatMap enc_Dyadic), c2 * 5⟩] [⟨B, (m.Cells.flatMap enc_Dyadic)⟩] := hS13
            refine ⟨(ST.sel hS13 [0] rfl rfl), ?_⟩
            refine ra_all (rs := [6]) (by kernel_rfl) rfl ?_
            refine ra_s0 (i := 6) rfl rfl rfl (Ys_store (i := 2) (s := 3) (B := some ⟨b2, 0, none⟩) (T' := 62) (v := .agg #[.int .i64 r_4.Rows, .int .i64 r_4.Cols, .slice B2 r_4.Cells.length c2]) (vs := [.int .i64 r_4.Rows, .int .i64 r_4.Cols, .slice B2 r_4.Cells.length c2]) (k := 0) (cs' := [.int .i64 r_4.Rows, .int .i64 r_4.Cols, .slice B2 r_4.Cells.length c2]) hS13 k_sz_62_3 rfl rfl rfl rfl rfl rfl rfl (Nat.le_of_ble_eq_true rfl) rfl rfl) ?_ ?_
            · rintro _ w_9 ⟨rfl, hS14⟩
              have hS14 : ST w0 [] _ [⟨some ⟨b, 0, none⟩, 62, [.int .i64 m.Rows, .int .i64 m.Cols, .slice B m.Cells.length c], 3⟩, ⟨B1, 91, (r_3.Cells.flatMap enc_Dyadic), c1 * 5⟩, ⟨some ⟨b2, 0, none⟩, 62, [.int .i64 r_4.Rows, .int .i64 r_4.Cols, .slice B2 r_4.Cells.length c2], 3⟩, ⟨some ⟨b1, 0, none⟩, 126, [.bool m1.bad], 1⟩, ⟨B2, 91, (r_4.Cells.flatMap enc_Dyadic), c2 * 5⟩] [⟨B, (m.Cells.flatMap enc_Dyadic)⟩] := hS14
              refine ⟨(ST.sel hS14 [0] rfl rfl), ?_⟩
              refine ra_done (by kernel_rfl) ?_
              exact ⟨some ⟨b2, 0, none⟩, B2, c2, (FF.cons rfl (FF.cons rfl (FF.cons rfl FF.nil))), (hS14.sel [0, 3, 2, 4] rfl rfl)⟩
            exact allR_nil
          exact allR_nil
        exact allR_nil
      refine ra_s 5 (i := 5) rfl rfl rfl (Ys_alloc (T := 62) (cs := [.int .i64 0, .int .i64 0, .slice none 0 0]) (m := 3) hS7 k_zero_62 rfl rfl rfl) ?_ ?_
      · rintro _ w_10 ⟨b2, rfl, hS15⟩
        have hS15 : ST w0 [] _ [⟨some ⟨b, 0, none⟩, 62, [.int .i64 m.Rows, .int .i64 m.Cols, .slice B m.Cells.length c], 3⟩, ⟨some ⟨b1, 0, none⟩, 126, [.bool false], 1⟩, ⟨some ⟨b2, 0, none⟩, 62, [.int .i64 0, .int .i64 0, .slice none 0 0], 3⟩] [⟨B, (m.Cells.flatMap enc_Dyadic)⟩] := hS15
        refine ⟨(ST.sel hS15 [0] rfl rfl), ?_⟩
        refine ra_all (rs := [3]) (by kernel_rfl) rfl ?_
        refine ra_c 21 (i := 3) rfl rfl rfl (Yc_func (g := 96) (vs := [.agg #[.int .i64 m.Rows, .int .i64 m.Cols, .slice B m.Cells.length c]]) k_call_96 rfl (mc rfl mn) (c_spec_l3Adj m B c m.Cells.length _ rfl (hS15.inn0 [(true, 0)] rfl) hc1)) ?_ ?_
        · rintro _ w_11 ⟨B1, c1, rfl, hd4⟩
          have hS16 := hS15.out0 hd4
          have hS16 : ST w0 [] _ [⟨some ⟨b, 0, none⟩, 62, [.int .i64 m.Rows, .int .i64 m.Cols, .slice B m.Cells.length c], 3⟩, ⟨some ⟨b1, 0, none⟩, 126, [.bool false], 1⟩, ⟨some ⟨b2, 0, none⟩, 62, [.int .i64 0, .int .i64 0, .slice none 0 0], 3⟩, ⟨B1, 91, (r_3.Cells.flatMap enc_Dyadic), c1 * 5⟩] [⟨B, (m.Cells.flatMap enc_Dyadic)⟩] := hS16
          refine ⟨(ST.sel hS16 [0] rfl rfl), ?_⟩
          refine ra_all (rs := [4]) (by kernel_rfl) rfl ?_
          refine ra_c 22 (i := 4) rfl rfl rfl (Yc_func (g := 95) (vs := [pt (some ⟨b1, 0, none⟩) 0, .agg #[.int .i64 m.Rows, .int .i64 m.Cols, .slice B m.Cells.length c], .agg #[.int .i64 r_3.Rows, .int .i64 r_3.Cols, .slice B1 r_3.Cells.length c1]]) k_call_95 rfl (mc rfl (mc rfl (mc rfl mn))) (c_spec_l2C_times (Tl2C.mk false) m r_3 (some ⟨b1, 0, none⟩) B c m.Cells.length B1 c1 r_3.Cells.length _ rfl rfl (hS16.inn [false, true, false, false] rfl [(true, 0), (false, 2)] rfl) hc2)) ?_ ?_
          · rintro _ w_12 ⟨B2, c2, rfl, hd5⟩
            have hS17 := hS16.out [false, true, false, false] rfl hd5
            have hS17 : ST w0 [] _ [⟨some ⟨b, 0, none⟩, 62, [.int .i64 m.Rows, .int .i64 m.Cols, .slice B m.Cells.length c], 3⟩, ⟨some ⟨b2, 0, none⟩, 62, [.int .i64 0, .int .i64 0, .slice none 0 0], 3⟩, ⟨B1, 91, (r_3.Cells.flatMap enc_Dyadic), c1 * 5⟩, ⟨some ⟨b1, 0, none⟩, 126, [.bool m1.bad], 1⟩, ⟨B2, 91, (r_4.Cells.flatMap enc_Dyadic), c2 * 5⟩] [⟨B, (m.Cells.flatMap enc_Dyadic)⟩] := hS17
            refine ⟨(ST.sel hS17 [0] rfl rfl), ?_⟩
            refine ra_all (rs := [6]) (by kernel_rfl) rfl ?_
            refine ra_s0 (i := 6) rfl rfl rfl (Ys_store (i := 1) (s := 3) (B := some ⟨b2, 0, none⟩) (T' := 62) (v := .agg #[.int .i64 r_4.Rows, .int .i64 r_4.Cols, .slice B2 r_4.Cells.length c2]) (vs := [.int .i64 r_4.Rows, .int .i64 r_4.Cols, .slice B2 r_4.Cells.length c2]) (k := 0) (cs' := [.int .i64 r_4.Rows, .int .i64 r_4.Cols, .slice B2 r_4.Cells.length c2]) hS17 k_sz_62_3 rfl rfl rfl rfl rfl rfl rfl (Nat.le_of_ble_eq_true rfl) rfl rfl) ?_ ?_
            · rintro _ w_13 ⟨rfl, hS18⟩
              have hS18 : ST w0 [] _ [⟨some ⟨b, 0, none⟩, 62, [.int .i64 m.Rows, .int .i64 m.Cols, .slice B m.Cells.length c], 3⟩, ⟨some ⟨b2, 0, none⟩, 62, [.int .i64 r_4.Rows, .int .i64 r_4.Cols, .slice B2 r_4.Cells.length c2], 3⟩, ⟨B1, 91, (r_3.Cells.flatMap enc_Dyadic), c1 * 5⟩, ⟨some ⟨b1, 0, none⟩, 126, [.bool m1.bad], 1⟩, ⟨B2, 91, (r_4.Cells.flatMap enc_Dyadic), c2 * 5⟩] [⟨B, (m.Cells.flatMap enc_Dyadic)⟩] := hS18
              refine ⟨(ST.sel hS18 [0] rfl rfl), ?_⟩
              refine ra_done (by kernel_rfl) ?_
              exact ⟨some ⟨b2, 0, none⟩, B2, c2, (FF.cons rfl (FF.cons rfl (FF.cons rfl FF.nil))), (hS18.sel [0, 3, 1, 4] rfl rfl)⟩
            exact allR_nil
          exact allR_nil
        exact allR_nil
      exact allR_nil
    rintro f w ⟨B3, B4, c3, hf, hS6⟩
    refine cw_seq ?_
    refine cw_seq ?_
    refine cw_region ?_
    refine sq 23 rfl rfl (Y_move (v := pt (some ⟨b1, 0, none⟩) 0) rfl (hf.get 4 1 rfl)) ?_
    refine sq 24 rfl rfl (Y_nilCheck (B := some ⟨b1, 0, none⟩) (i := 0) rfl rfl) ?_
    refine sq 25 rfl rfl (Y_fieldAddr (B := some ⟨b1, 0, none⟩) (i := 0) (s := 0) k_fd_126_0_0_4 k_sz_4_1 rfl rfl) ?_
    refine sq 26 rfl rfl (Y_load1 (B := some ⟨b1, 0, none⟩) (i := 0) (cs := [.bool m1.bad]) (v := .bool m1.bad) k_sc_4 rfl rfl (hS6.cf (i := 1) rfl) rfl) ?_
    refine rw_nil ?_
    refine cw_cond (b := m1.bad) rfl (fun hb1 => ?_) (fun hb1 => ?_)
    · skip
      have hF3 := ct hF2 hb1
      refine cw_seq ?_
      refine cw_region ?_
      refine sq 2 rfl rfl (Y_assign (v := .bool false) rfl rfl) ?_
      refine sq 3 rfl rfl (Y_assign (v := .bool false) rfl rfl) ?_
      refine rw_nil ?_
      refine cw_ret ?_
      obtain ⟨rfl, rfl⟩ := pr2 (some_inj hF3)
      exact ret2 Try.results35 (v1 := .bool false) (resAt_tmp rfl) (v2 := .bool false) (resAt_tmp rfl) ⟨rfl, (ST.subR (R' := []) (hS6.sel [] rfl rfl) (fun _ h => by cases h))⟩
    · skip
      have hF4 := cf' hF2 hb1
      refine cw_skip ?_
      refine cw_seq ?_
      obtain ⟨r_5, hc3, hF4⟩ := bind_inv hF4
      obtain ⟨r_6, hc4, hF4⟩ := bind_inv hF4
      refine ra_start (ST.sel hS6 [0, 1, 2, 3] rfl rfl).fn (by kernel_rfl) ?_
      have hS21 := hS6.drew
      refine ra_q 0 27 (v := .agg #[.int .i64 r_4.Rows, .int .i64 r_4.Cols, .slice B4 r_4.Cells.length c3]) rfl rfl rfl (by kernel_rfl) (by kernel_rfl) (by kernel_rfl) (ST.sel hS21 [0, 1, 2, 3] rfl rfl) (fun w' hw' => (Y_loadA (B := B3) (i := 0) (cs := [.int .i64 r_4.Rows, .int .i64 r_4.Cols, .slice B4 r_4.Cells.length c3]) (vs := [.int .i64 r_4.Rows, .int .i64 r_4.Cols, .slice B4 r_4.Cells.length c3]) k_ag_62 k_sz_62_3 rfl (hf.get 5 2 rfl) (ST.cf hw' (i := 2) rfl) rfl rfl)) ?_
      refine ra_q 1 28 (v := pt (some ⟨b, 0, none⟩) 0) rfl rfl rfl (by kernel_rfl) (by kernel_rfl) (by kernel_rfl) (ST.sel hS21 [0, 1, 2, 3] rfl rfl) (fun w' hw' => (Y_fieldAddr (B := some ⟨b, 0, none⟩) (i := 0) (s := 0) k_fd_62_0_0_3 k_sz_3_1 rfl (hf.get 1 0 rfl))) ?_
      refine ra_q 2 29 (v := .int .i64 m.Rows) rfl rfl rfl (by kernel_rfl) (by kernel_rfl) (by kernel_rfl) (ST.sel hS21 [0, 1, 2, 3] rfl rfl) (fun w' hw' => (Y_load1 (B := some ⟨b, 0, none⟩) (i := 0) (cs := [.int .i64 m.Rows, .int .i64 m.Cols, .slice B m.Cells.length c]) (v := .int .i64 m.Rows) k_sc_3 rfl rfl (ST.cf hw' (i := 0) rfl) rfl)) ?_
      refine ra_all (rs := [3]) (by kernel_rfl) rfl ?_
      refine ra_c 30 (i := 3) rfl rfl rfl (Yc_func (g := 98) (vs := [.int .i64 m.Rows]) k_call_98 rfl (mc rfl mn) (c_spec_l3Unit m.Rows _  (hS21.inn0 [] rfl) hc3)) ?_ ?_
      · rintro _ w_14 ⟨B5, c4, rfl, hd6⟩
        have hS22 := hS21.out0 hd6
        have hS22 : ST w0 [] _ [⟨some ⟨b, 0, none⟩, 62, [.int .i64 m.Rows, .int .i64 m.Cols, .slice B m.Cells.length c], 3⟩, ⟨some ⟨b1, 0, none⟩, 126, [.bool m1.bad], 1⟩, ⟨B3, 62, [.int .i64 r_4.Rows, .int .i64 r_4.Cols, .slice B4 r_4.Cells.length c3], 3⟩, ⟨B4, 91, (r_4.Cells.flatMap enc_Dyadic), c3 * 5⟩, ⟨B5, 91, (r_5.Cells.flatMap enc_Dyadic), c4 * 5⟩] [⟨B, (m.Cells.flatMap enc_Dyadic)⟩] := hS22
        refine ⟨(ST.sel hS22 [0, 1, 2, 3] rfl rfl), ?_⟩
        refine ra_all (rs := [4]) (by kernel_rfl) rfl ?_
        refine ra_c 31 (i := 4) rfl rfl rfl (Yc_func (g := 97) (vs := [.agg #[.int .i64 r_4.Rows, .int .i64 r_4.Cols, .slice B4 r_4.Cells.length c3], .agg #[.int .i64 r_5.Rows, .int .i64 r_5.Cols, .slice B5 r_5.Cells.length c4]]) k_call_97 rfl (mc rfl (mc rfl mn)) (c_spec_EqualMatrices r_4 r_5 B4 c3 r_4.Cells.length B5 c4 r_5.Cells.length _ rfl rfl (hS22.inn0 [(false, 3), (false, 4)] rfl) hc4)) ?_ ?_
        · rintro _ w_15 ⟨rfl, hd7⟩
          have hS23 := hS22.out00 hd7
          have hS23 : ST w0 [] _ [⟨some ⟨b, 0, none⟩, 62, [.int .i64 m.Rows, .int .i64 m.Cols, .slice B m.Cells.length c], 3⟩, ⟨some ⟨b1, 0, none⟩, 126, [.bool m1.bad], 1⟩, ⟨B3, 62, [.int .i64 r_4.Rows, .int .i64 r_4.Cols, .slice B4 r_4.Cells.length c3], 3⟩, ⟨B4, 91, (r_4.Cells.flatMap enc_Dyadic), c3 * 5⟩, ⟨B5, 91, (r_5.Cells.flatMap enc_Dyadic), c4 * 5⟩] [⟨B, (m.Cells.flatMap enc_Dyadic)⟩] := hS23
          refine ⟨(ST.sel hS23 [0, 1, 2, 3] rfl rfl), ?_⟩
          refine ra_q 5 2 (v := .bool r_6) rfl rfl rfl (by kernel_rfl) (by kernel_rfl) (by kernel_rfl) (ST.sel hS23 [0, 1, 2, 3] rfl rfl) (fun w' hw' => (Y_assign (v := .bool r_6) rfl rfl)) ?_
          refine ra_q 6 3 (v := .bool true) rfl rfl rfl (by kernel_rfl) (by kernel_rfl) (by kernel_rfl) (ST.sel hS23 [0, 1, 2, 3] rfl rfl) (fun w' hw' => (Y_assign (v := .bool true) rfl rfl)) ?_
          refine ra_done (by kernel_rfl) ?_
          refine cw_ret ?_
          obtain ⟨rfl, rfl⟩ := pr2 (some_inj hF4)
          exact ret2 Try.results35 (v1 := .bool r_6) (resAt_tmp rfl) (v2 := .bool true) (resAt_tmp rfl) ⟨rfl, (ST.subR (R' := []) (hS23.sel [] rfl rfl) (fun _ h => by cases h))⟩
        exact allR_nil
      exact allR_nil

theorem c_spec_l9Good (m : TMatrix) (B : Option Addr) (c n : Nat) (w0 : World) (hn : m.Cells.length = n) (hS : ST w0 [] w0 [] [⟨B, (m.Cells.flatMap enc_Dyadic)⟩]) {r_ : Bool} (hF : F_spec_l9Good m = some r_) :
    CV Try.prog 118 #[.agg #[.int .i64 m.Rows, .int .i64 m.Cols, .slice B n c]] w0 (fun v w' => v = .bool r_ ∧ ST w0 [] w' [] []) := by
  subst hn
  unfold F_spec_l9Good at hF
  refine cv_of_cw 19 Try.func118 rfl Try.ntmps118 rfl ?_
  refine cw_seq ?_
  refine cw_region ?_
  refine ss 1 rfl rfl (Ys_box (T := 62) (v := .agg #[.int .i64 m.Rows, .int .i64 m.Cols, .slice B m.Cells.length c]) (cs := [.int .i64 m.Rows, .int .i64 m.Cols, .slice B m.Cells.length c]) (m := 3) hS rfl rfl rfl rfl) ?_
  rintro _ w_ ⟨b, rfl, hS1⟩
  refine sq 2 rfl rfl (Y_assign (v := .bool false) rfl rfl) ?_
  refine rw_nil ?_
  refine cw_seq ?_
  refine cw_region ?_
  refine sq 6 rfl rfl (Y_loadA (B := some ⟨b, 0, none⟩) (i := 0) (cs := [.int .i64 m.Rows, .int .i64 m.Cols, .slice B m.Cells.length c]) (vs := [.int .i64 m.Rows, .int .i64 m.Cols, .slice B m.Cells.length c]) k_ag_62 k_sz_62_3 rfl rfl (hS1.cf (i := 0) rfl) rfl rfl) ?_
  obtain ⟨⟨r_1, r_2⟩, hc, hF⟩ := bind_inv hF
  refine sc 7 rfl rfl (Yc_func (g := 35) (vs := [.agg #[.int .i64 m.Rows, .int .i64 m.Cols, .slice B m.Cells.length c]]) k_call_35 rfl (mc rfl mn) (c_spec_IsUnitary m B c m.Cells.length _ rfl (hS1.inn0 [(true, 0)] rfl) hc)) ?_
  rintro _ w_1 ⟨rfl, hd⟩
  have hS2 := hS1.out00 hd
  refine sq 5 rfl rfl (Y_move (v := .tuple #[.bool r_1, .bool r_2]) rfl rfl) ?_
  refine sq 8 rfl rfl (Y_extract (v := .bool r_1) rfl rfl rfl) ?_
  refine sq 9 rfl rfl (Y_extract (v := .bool r_2) rfl rfl rfl) ?_
  refine sq 3 rfl rfl (Y_assign (v := .bool r_1) rfl rfl) ?_
  refine sq 4 rfl rfl (Y_assign (v := .bool r_2) rfl rfl) ?_
  refine rw_nil ?_
  refine cw_seq ?_
  refine cw_region ?_
  refine sq 10 rfl rfl (Y_move (v := .bool r_2) rfl rfl) ?_
  refine sq 11 rfl rfl (Y_move (v := .bool r_2) rfl rfl) ?_
  refine sgq 12 (B := r_2) (v := .bool r_1) rfl rfl (wt_t (gd_of (t := 11) (by kernel_rfl) rfl)) (fun hg => (Y_move (v := .bool r_1) rfl rfl)) ?_
  refine sq 13 rfl rfl (Y_and (b := r_2) (z := r_1) rfl rfl rfl rfl) ?_
  refine sq 14 rfl rfl (Y_move (v := .bool (r_2 && r_1)) rfl rfl) ?_
  refine sgq 15 (B := (r_2 && r_1)) (v := pt (some ⟨b, 0, none⟩) 0) rfl rfl (wt_t (gd_of (t := 14) (by kernel_rfl) rfl)) (fun hg1 => (Y_fieldAddr (B := some ⟨b, 0, none⟩) (i := 0) (s := 0) k_fd_62_0_0_3 k_sz_3_1 rfl rfl)) ?_
  refine sgq 16 (B := (r_2 && r_1)) (v := .int .i64 m.Rows) rfl rfl (wt_t (gd_of (t := 14) (by kernel_rfl) rfl)) (fun hg2 => (Y_load1 (B := some ⟨b, 0, none⟩) (i := 0) (cs := [.int .i64 m.Rows, .int .i64 m.Cols, .slice B m.Cells.length c]) (v := .int .i64 m.Rows) k_sc_3 rfl (gv_of (B := (r_2 && r_1)) (v := pt (some ⟨b, 0, none⟩) 0) hg2) (hS2.cf (i := 0) rfl) rfl)) ?_
  refine sgq 17 (B := (r_2 && r_1)) (v := .bool (m.Rows == 2)) rfl rfl (wt_t (gd_of (t := 14) (by kernel_rfl) rfl)) (fun hg3 => (Y_eq (k := .i64) (a := m.Rows) (b := 2) rfl (gv_of (B := (r_2 && r_1)) (v := .int .i64 m.Rows) hg3) rfl)) ?_
  refine sq 18 rfl rfl (Y_and (b := (r_2 && r_1)) (z := (m.Rows == 2)) rfl rfl rfl rfl) ?_
  refine sq 2 rfl rfl (Y_assign (v := .bool ((r_2 && r_1) && (m.Rows == 2))) rfl rfl) ?_
  refine rw_nil ?_
  refine cw_ret ?_
  obtain rfl := some_inj hF
  exact ret1 Try.results118 (v1 := .bool ((r_2 && r_1) && (m.Rows == 2))) (resAt_tmp rfl) ⟨rfl, (ST.subR (R' := []) (hS2.sel [] rfl rfl) (fun _ h => by cases h))⟩

theorem c_spec_IsOneQubit (m : TMatrix) (B : Option Addr) (c n : Nat) (w0 : World) (hn : m.Cells.length = n) (hS : ST w0 [] w0 [] [⟨B, (m.Cells.flatMap enc_Dyadic)⟩]) {r_ : Bool} (hF : F_spec_IsOneQubit m = some r_) :
    CV Try.prog 46 #[.agg #[.int .i64 m.Rows, .int .i64 m.Cols, .slice B n c]] w0 (fun v w' => v = .bool r_ ∧ ST w0 [] w' [] []) := by
  subst hn
  unfold F_spec_IsOneQubit at hF
  refine cv_of_cw 5 Try.func46 rfl Try.ntmps46 rfl ?_
  refine cw_seq ?_
  refine cw_region ?_
  refine ss 1 rfl rfl (Ys_box (T := 62) (v := .agg #[.int .i64 m.Rows, .int .i64 m.Cols, .slice B m.Cells.length c]) (cs := [.int .i64 m.Rows, .int .i64 m.Cols, .slice B m.Cells.length c]) (m := 3) hS rfl rfl rfl rfl) ?_
  rintro _ w_ ⟨b, rfl, hS1⟩
  refine sq 2 rfl rfl (Y_assign (v := .bool false) rfl rfl) ?_
  refine rw_nil ?_
  refine cw_seq ?_
  refine cw_region ?_
  refine sq 3 rfl rfl (Y_loadA (B := some ⟨b, 0, none⟩) (i := 0) (cs := [.int .i64 m.Rows, .int .i64 m.Cols, .slice B m.Cells.length c]) (vs := [.int .i64 m.Rows, .int .i64 m.Cols, .slice B m.Cells.length c]) k_ag_62 k_sz_62_3 rfl rfl (hS1.cf (i := 0) rfl) rfl rfl) ?_
  obtain ⟨r_1, hc, hF⟩ := bind_inv hF
  refine sc 4 rfl rfl (Yc_func (g := 118) (vs := [.agg #[.int .i64 m.Rows, .int .i64 m.Cols, .slice B m.Cells.length c]]) k_call_118 rfl (mc rfl mn) (c_spec_l9Good m B c m.Cells.length _ rfl (hS1.inn0 [(true, 0)] rfl) hc)) ?_
  rintro _ w_1 ⟨rfl, hd⟩
  have hS2 := hS1.out00 hd
  refine sq 2 rfl rfl (Y_assign (v := .bool r_1) rfl rfl) ?_
  refine rw_nil ?_
  refine cw_ret ?_
  obtain rfl := some_inj hF
  exact ret1 Try.results46 (v1 := .bool r_1) (resAt_tmp rfl) ⟨rfl, (ST.subR (R' := []) (hS2.sel [] rfl rfl) (fun _ h => by cases h))⟩

theorem c_slices_IndexFunc_impl_Dyadic_impl_Dyadic (s : List TDyadic) (f_ : TDyadic → Option (Bool)) (B : Option Addr) (c n : Nat) (kf : Nat) (caps : Array Value) (Rf : List Ro) (w0 : World) (hn : s.length = n) (hk : callB Try.prog kf = true) (hp : ∀ (w : World), ST w [] w [] Rf → ∀ (x : TDyadic) (y : Bool), f_ x = some y → CV Try.prog kf ((.agg #[.int .i64 x.Num.A, .int .i64 x.Num.B, .int .i64 x.Num.C, .int .i64 x.Num.D, .int .i64 x.Exp]) :: caps.toList).toArray w (fun v w' => v = .bool y ∧ ST w [] w' [] [])) (hS : ST w0 [] w0 [] (⟨B, (s.flatMap enc_Dyadic)⟩ :: Rf)) {r_ : Int} (hF : F_slices_IndexFunc_impl_Dyadic_impl_Dyadic s f_ = some r_) :
    CV Try.prog 133 #[.slice B n c, .func (.func kf) #[] caps] w0 (fun v w' => v = .int .i64 r_ ∧ ST w0 [] w' [] []) := by
  subst hn
  unfold F_slices_IndexFunc_impl_Dyadic_impl_Dyadic at hF
  refine cv_of_cw 19 Try.func133 rfl Try.ntmps133 rfl ?_
  refine cw_seq ?_
  refine cw_region ?_
  refine sq 4 rfl rfl (Y_assign (v := .int .i64 0) rfl rfl) ?_
  refine rw_nil ?_
  refine cw_seq ?_
  refine cw_seq ?_
  refine cw_region ?_
  refine sq 6 rfl rfl (Y_move (v := .slice B s.length c) rfl rfl) ?_
  refine sq 7 rfl rfl (Y_len (B := B) (m := s.length) (c := c) k_sl_27_91 rfl rfl) ?_
  refine sq 8 rfl rfl (Y_move (v := .int .i64 0) rfl rfl) ?_
  refine rw_nil ?_
  obtain ⟨hN, hF⟩ := chk_inv hF
  obtain ⟨z, hz, hF1⟩ := bind_inv hF
  refine cw_block ?_
  refine cw_loop (fun k f w => ∃ (i : Nat), FF f [(0, .slice B s.length c), (1, .func (.func kf) #[] caps), (7, .int .i64 (s.length : Int)), (8, .int .i64 (i : Int))] ∧ ST w0 [] w [] (⟨B, (s.flatMap enc_Dyadic)⟩ :: Rf) ∧ i + k = s.length ∧ forX (F_slices_IndexFunc_impl_Dyadic_impl_Dyadic_l1 s f_) k i () = some z) s.length ⟨0, (FF.cons rfl (FF.cons rfl (FF.cons rfl (FF.cons rfl FF.nil)))), (hS.sel [] rfl rfl), Nat.zero_add _, hz⟩ ?_
  rintro k_ f w ⟨i, hf, hS1, hik, hL⟩
  refine cw_seq ?_
  refine cw_region ?_
  refine sq 9 rfl rfl (Y_lt (k := .i64) (a := (i : Int)) (b := (s.length : Int)) rfl (hf.get 8 3 rfl) (hf.get 7 2 rfl)) ?_
  refine rw_nil ?_
  refine cw_seq ?_
  refine cw_cond (b := (decide ((i : Int) < (s.length : Int)))) rfl (fun hlt => ?_) (fun hlt => ?_)
  · skip
    have hlt1 : i < s.length := by have h := of_decide_eq_true hlt; omega
    obtain ⟨k_1, rfl⟩ : ∃ k2, k_ = k2 + 1 := ⟨k_ - 1, by omega⟩
    obtain ⟨y1, hb, hL1⟩ := forX_go hL
    unfold F_slices_IndexFunc_impl_Dyadic_impl_Dyadic_l1 at hb
    refine cw_skip ?_
    refine cw_seq ?_
    refine cw_block ?_
    refine cw_seq ?_
    refine cw_region ?_
    refine sq 10 rfl rfl (Y_move (v := .int .i64 (i : Int)) rfl (hf.get 8 3 rfl)) ?_
    refine sq 5 rfl rfl (Y_assign (v := .int .i64 (i : Int)) rfl rfl) ?_
    refine rw_nil ?_
    refine cw_seq ?_
    refine cw_region ?_
    refine sq 11 rfl rfl (Y_move (v := .func (.func kf) #[] caps) rfl (hf.get 1 1 rfl)) ?_
    refine sq 12 rfl rfl (Y_move (v := .slice B s.length c) rfl (hf.get 0 0 rfl)) ?_
    refine sq 13 rfl rfl (Y_move (v := .int .i64 (i : Int)) rfl rfl) ?_
    obtain ⟨x1, hx, hb⟩ := bind_inv hb
    refine sq 14 rfl rfl (Y_index (B := B) (m := s.length) (c := c) (k := .i64) (i := (i : Int)) k_sl_27_91 k_sz_91_5 rfl rfl rfl (gi_isSome enc_Dyadic_len rfl (hS1.rf (i := 0) rfl) hx) (getI_nn hx) (getI_ltI hx rfl)) ?_
    refine sq 15 rfl rfl (Y_loadA (B := B) (i := (i : Int).toNat * 5) (cs := (s.flatMap enc_Dyadic)) (vs := [.int .i64 x1.Num.A, .int .i64 x1.Num.B, .int .i64 x1.Num.C, .int .i64 x1.Num.D, .int .i64 x1.Exp]) k_ag_91 k_sz_91_5 rfl rfl (hS1.rf (i := 0) rfl) (enc_Dyadic_len x1) (gi_seg enc_Dyadic_len hx)) ?_
    obtain ⟨r_1, hc, hb⟩ := bind_inv hb
    refine sc 16 rfl rfl (Yc_clos (g := kf) (vs := (.agg #[.int .i64 x1.Num.A, .int .i64 x1.Num.B, .int .i64 x1.Num.C, .int .i64 x1.Num.D, .int .i64 x1.Exp]) :: caps.toList) hk rfl rfl (clo_args (mc rfl mn)) (hp _ (hS1.innS (fun _ h => List.mem_of_mem_drop (i := 1) h)) x1 r_1 hc)) ?_
    rintro _ w_ ⟨rfl, hd⟩
    have hS2 := hS1.out00 hd
    refine rw_nil ?_
    refine cw_cond (b := r_1) rfl (fun hb1 => ?_) (fun hb1 => ?_)
    · skip
      have hF2 := ct hb hb1
      refine cw_seq ?_
      refine cw_region ?_
      refine sq 17 rfl rfl (Y_move (v := .int .i64 (i : Int)) rfl rfl) ?_
      refine sq 4 rfl rfl (Y_assign (v := .int .i64 (i : Int)) rfl rfl) ?_
      refine rw_nil ?_
      refine cw_ret ?_
      obtain rfl := some_inj hF2
      obtain rfl := some_inj hL1
      obtain rfl := some_inj hF1
      exact ret1 Try.results133 (v1 := .int .i64 (i : Int)) (resAt_tmp rfl) ⟨rfl, (ST.subR (R' := []) (hS2.sel [] rfl rfl) (fun _ h => by cases h))⟩
    · skip
      have hF3 := cf' hb hb1
      refine cw_skip ?_
      refine cw_region ?_
      refine sq 18 rfl rfl (Y_add (k := .i64) (a := (i : Int)) (b := 1) rfl (hf.get 8 3 rfl) rfl) ?_
      refine sq 8 rfl rfl (Y_move (v := .int .i64 (IntKind.i64.wrap ((i : Int) + 1))) rfl rfl) ?_
      refine rw_nil ?_
      obtain rfl := some_inj hF3
      exact ⟨k_1, Nat.lt_succ_self _, i + 1, (FF.cons (hf.get 0 0 rfl) (FF.cons (hf.get 1 1 rfl) (FF.cons (hf.get 7 2 rfl) (FF.cons (congrArg (Value.int .i64) (wr_succ hlt1 hN)) FF.nil)))), (hS2.sel [] rfl rfl), (by omega), hL1⟩
  · skip
    obtain rfl : k_ = 0 := by have h := of_decide_eq_false hlt; omega
    refine cw_exit rfl ?_
    obtain rfl := some_inj hL
    refine cw_seq ?_
    refine cw_region ?_
    refine sq 4 rfl rfl (Y_assign (v := .int .i64 (-1)) rfl rfl) ?_
    refine rw_nil ?_
    refine cw_ret ?_
    obtain rfl := some_inj hF1
    exact ret1 Try.results133 (v1 := .int .i64 (-1)) (resAt_tmp rfl) ⟨rfl, (ST.subR (R' := []) (hS1.sel [] rfl rfl) (fun _ h => by cases h))⟩

theorem c_slices_ContainsFunc_impl_Dyadic_impl_Dyadic (s : List TDyadic) (f_ : TDyadic → Option (Bool)) (B : Option Addr) (c n : Nat) (kf : Nat) (caps : Array Value) (Rf : List Ro) (w0 : World) (hn : s.length = n) (hk : callB Try.prog kf = true) (hp : ∀ (w : World), ST w [] w [] Rf → ∀ (x : TDyadic) (y : Bool), f_ x = some y → CV Try.prog kf ((.agg #[.int .i64 x.Num.A, .int .i64 x.Num.B, .int .i64 x.Num.C, .int .i64 x.Num.D, .int .i64 x.Exp]) :: caps.toList).toArray w (fun v w' => v = .bool y ∧ ST w [] w' [] [])) (hS : ST w0 [] w0 [] (⟨B, (s.flatMap enc_Dyadic)⟩ :: Rf)) {r_ : Bool} (hF : F_slices_ContainsFunc_impl_Dyadic_impl_Dyadic s f_ = some r_) :
    CV Try.prog 61 #[.slice B n c, .func (.func kf) #[] caps] w0 (fun v w' => v = .bool r_ ∧ ST w0 [] w' [] []) := by
  subst hn
  unfold F_slices_ContainsFunc_impl_Dyadic_impl_Dyadic at hF
  refine cv_of_cw 9 Try.func61 rfl Try.ntmps61 rfl ?_
  refine cw_seq ?_
  refine cw_region ?_
  refine sq 4 rfl rfl (Y_assign (v := .bool false) rfl rfl) ?_
  refine rw_nil ?_
  refine cw_seq ?_
  refine cw_region ?_
  refine sq 5 rfl rfl (Y_move (v := .slice B s.length c) rfl rfl) ?_
  refine sq 6 rfl rfl (Y_move (v := .func (.func kf) #[] caps) rfl rfl) ?_
  obtain ⟨r_1, hc, hF⟩ := bind_inv hF
  refine sc 7 rfl rfl (Yc_func (g := 133) (vs := [.slice B s.length c, .func (.func kf) #[] caps]) k_call_133 rfl (mc rfl (mc rfl mn)) (c_slices_IndexFunc_impl_Dyadic_impl_Dyadic s f_ B c s.length kf caps Rf _ rfl hk hp (hS.innS (subc (mem_at (i := 0) rfl) (fun _ h => List.mem_of_mem_drop (i := 1) h))) hc)) ?_
  rintro _ w_ ⟨rfl, hd⟩
  have hS1 := hS.out00 hd
  refine sq 8 rfl rfl (Y_ge (k := .i64) (a := r_1) (b := 0) rfl rfl rfl) ?_
  refine sq 4 rfl rfl (Y_assign (v := .bool (decide (0 ≤ r_1))) rfl rfl) ?_
  refine rw_nil ?_
  refine cw_ret ?_
  obtain rfl := some_inj hF
  exact ret1 Try.results61 (v1 := .bool (decide (0 ≤ r_1))) (resAt_tmp rfl) ⟨rfl, (ST.subR (R' := []) (hS1.sel [] rfl rfl) (fun _ h => by cases h))⟩

theorem c_impl_within (n : Int) (low : Int) (high : Int)  (w0 : World)  (hS : ST w0 [] w0 [] []) {r_ : Bool} (hF : F_impl_within n low high = some r_) :
    CV Try.prog 145 #[.int .i64 n, .int .i64 low, .int .i64 high] w0 (fun v w' => v = .bool r_ ∧ ST w0 [] w' [] []) := by
  unfold F_impl_within at hF
  refine cv_of_cw 15 Try.func145 rfl Try.ntmps145 rfl ?_
  refine cw_seq ?_
  refine cw_region ?_
  refine sq 6 rfl rfl (Y_assign (v := .bool false) rfl rfl) ?_
  refine rw_nil ?_
  refine cw_seq ?_
  refine cw_region ?_
  refine sq 7 rfl rfl (Y_move (v := .int .i64 low) rfl rfl) ?_
  refine sq 8 rfl rfl (Y_move (v := .int .i64 n) rfl rfl) ?_
  refine sq 9 rfl rfl (Y_le (k := .i64) (a := low) (b := n) rfl rfl rfl) ?_
  refine sq 10 rfl rfl (Y_move (v := .bool (decide (low ≤ n))) rfl rfl) ?_
  refine sgq 11 (B := (decide (low ≤ n))) (v := .int .i64 n) rfl rfl (wt_t (gd_of (t := 10) (by kernel_rfl) rfl)) (fun hg => (Y_move (v := .int .i64 n) rfl rfl)) ?_
  refine sgq 12 (B := (decide (low ≤ n))) (v := .int .i64 high) rfl rfl (wt_t (gd_of (t := 10) (by kernel_rfl) rfl)) (fun hg1 => (Y_move (v := .int .i64 high) rfl rfl)) ?_
  refine sgq 13 (B := (decide (low ≤ n))) (v := .bool (decide (n ≤ high))) rfl rfl (wt_t (gd_of (t := 10) (by kernel_rfl) rfl)) (fun hg2 => (Y_le (k := .i64) (a := n) (b := high) rfl (gv_of (B := (decide (low ≤ n))) (v := .int .i64 n) hg2) (gv_of (B := (decide (low ≤ n))) (v := .int .i64 high) hg2))) ?_
  refine sq 14 rfl rfl (Y_and (b := (decide (low ≤ n))) (z := (decide (n ≤ high))) rfl rfl rfl rfl) ?_
  refine sq 6 rfl rfl (Y_assign (v := .bool ((decide (low ≤ n)) && (decide (n ≤ high)))) rfl rfl) ?_
  refine rw_nil ?_
  refine cw_ret ?_
  obtain rfl := some_inj hF
  exact ret1 Try.results145 (v1 := .bool ((decide (low ≤ n)) && (decide (n ≤ high)))) (resAt_tmp rfl) ⟨rfl, (ST.subR (R' := []) (hS.sel [] rfl rfl) (fun _ h => by cases h))⟩

theorem c_impl_isDim (n : Int)  (w0 : World)  (hS : ST w0 [] w0 [] []) {r_ : Bool} (hF : F_impl_isDim n = some r_) :
    CV Try.prog 154 #[.int .i64 n] w0 (fun v w' => v = .bool r_ ∧ ST w0 [] w' [] []) := by
  unfold F_impl_isDim at hF
  refine cv_of_cw 12 Try.func154 rfl Try.ntmps154 rfl ?_
  refine cw_seq ?_
  refine cw_region ?_
  refine sq 2 rfl rfl (Y_assign (v := .bool false) rfl rfl) ?_
  refine rw_nil ?_
  refine cw_seq ?_
  refine cw_region ?_
  refine sq 3 rfl rfl (Y_move (v := .int .i64 n) rfl rfl) ?_
  obtain ⟨r_1, hc, hF⟩ := bind_inv hF
  refine sc 4 rfl rfl (Yc_func (g := 145) (vs := [.int .i64 n, .int .i64 1, .int .i64 32]) k_call_145 rfl (mc rfl (mc rfl (mc rfl mn))) (c_impl_within n 1 32 _  (hS.inn0 [] rfl) hc)) ?_
  rintro _ w_ ⟨rfl, hd⟩
  have hS1 := hS.out00 hd
  refine sq 5 rfl rfl (Y_move (v := .bool r_1) rfl rfl) ?_
  refine sgq 6 (B := r_1) (v := .int .i64 n) rfl rfl (wt_t (gd_of (t := 5) (by kernel_rfl) rfl)) (fun hg => (Y_move (v := .int .i64 n) rfl rfl)) ?_
  refine sgq 7 (B := r_1) (v := .int .i64 n) rfl rfl (wt_t (gd_of (t := 5) (by kernel_rfl) rfl)) (fun hg1 => (Y_move (v := .int .i64 n) rfl rfl)) ?_
  refine sgq 8 (B := r_1) (v := .int .i64 (IntKind.i64.wrap (n - 1))) rfl rfl (wt_t (gd_of (t := 5) (by kernel_rfl) rfl)) (fun hg2 => (Y_sub (k := .i64) (a := n) (b := 1) rfl (gv_of (B := r_1) (v := .int .i64 n) hg2) rfl)) ?_
  refine sgq 9 (B := r_1) (v := .int .i64 (bits .and .i64 n (IntKind.i64.wrap (n - 1)))) rfl rfl (wt_t (gd_of (t := 5) (by kernel_rfl) rfl)) (fun hg3 => (Y_band (k := .i64) (a := n) (b := (IntKind.i64.wrap (n - 1))) rfl (gv_of (B := r_1) (v := .int .i64 n) hg3) (gv_of (B := r_1) (v := .int .i64 (IntKind.i64.wrap (n - 1))) hg3))) ?_
  refine sgq 10 (B := r_1) (v := .bool ((bits .and .i64 n (IntKind.i64.wrap (n - 1))) == 0)) rfl rfl (wt_t (gd_of (t := 5) (by kernel_rfl) rfl)) (fun hg4 => (Y_eq (k := .i64) (a := (bits .and .i64 n (IntKind.i64.wrap (n - 1)))) (b := 0) rfl (gv_of (B := r_1) (v := .int .i64 (bits .and .i64 n (IntKind.i64.wrap (n - 1)))) hg4) rfl)) ?_
  refine sq 11 rfl rfl (Y_and (b := r_1) (z := ((bits .and .i64 n (IntKind.i64.wrap (n - 1))) == 0)) rfl rfl rfl rfl) ?_
  refine sq 2 rfl rfl (Y_assign (v := .bool (r_1 && ((bits .and .i64 n (IntKind.i64.wrap (n - 1))) == 0))) rfl rfl) ?_
  refine rw_nil ?_
  refine cw_ret ?_
  obtain rfl := some_inj hF
  exact ret1 Try.results154 (v1 := .bool (r_1 && ((bits .and .i64 n (IntKind.i64.wrap (n - 1))) == 0))) (resAt_tmp rfl) ⟨rfl, (ST.subR (R' := []) (hS1.sel [] rfl rfl) (fun _ h => by cases h))⟩

theorem c_impl_isCoef (n : Int)  (w0 : World)  (hS : ST w0 [] w0 [] []) {r_ : Bool} (hF : F_impl_isCoef n = some r_) :
    CV Try.prog 208 #[.int .i64 n] w0 (fun v w' => v = .bool r_ ∧ ST w0 [] w' [] []) := by
  unfold F_impl_isCoef at hF
  refine cv_of_cw 5 Try.func208 rfl Try.ntmps208 rfl ?_
  refine cw_seq ?_
  refine cw_region ?_
  refine sq 2 rfl rfl (Y_assign (v := .bool false) rfl rfl) ?_
  refine rw_nil ?_
  refine cw_seq ?_
  refine cw_region ?_
  refine sq 3 rfl rfl (Y_move (v := .int .i64 n) rfl rfl) ?_
  obtain ⟨r_1, hc, hF⟩ := bind_inv hF
  refine sc 4 rfl rfl (Yc_func (g := 145) (vs := [.int .i64 n, .int .i64 (-1000000000), .int .i64 1000000000]) k_call_145 rfl (mc rfl (mc rfl (mc rfl mn))) (c_impl_within n (-1000000000) 1000000000 _  (hS.inn0 [] rfl) hc)) ?_
  rintro _ w_ ⟨rfl, hd⟩
  have hS1 := hS.out00 hd
  refine sq 2 rfl rfl (Y_assign (v := .bool r_1) rfl rfl) ?_
  refine rw_nil ?_
  refine cw_ret ?_
  obtain rfl := some_inj hF
  exact ret1 Try.results208 (v1 := .bool r_1) (resAt_tmp rfl) ⟨rfl, (ST.subR (R' := []) (hS1.sel [] rfl rfl) (fun _ h => by cases h))⟩

theorem c_impl_IsValidRing (x : TRing)  (w0 : World)  (hS : ST w0 [] w0 [] []) {r_ : Bool} (hF : F_impl_IsValidRing x = some r_) :
    CV Try.prog 185 #[.agg #[.int .i64 x.A, .int .i64 x.B, .int .i64 x.C, .int .i64 x.D]] w0 (fun v w' => v = .bool r_ ∧ ST w0 [] w' [] []) := by
  unfold F_impl_IsValidRing at hF
  refine cv_of_cw 21 Try.func185 rfl Try.ntmps185 rfl ?_
  refine cw_seq ?_
  refine cw_region ?_
  refine ss 1 rfl rfl (Ys_box (T := 89) (v := .agg #[.int .i64 x.A, .int .i64 x.B, .int .i64 x.C, .int .i64 x.D]) (cs := [.int .i64 x.A, .int .i64 x.B, .int .i64 x.C, .int .i64 x.D]) (m := 4) hS rfl rfl rfl rfl) ?_
  rintro _ w_ ⟨b, rfl, hS1⟩
  refine sq 2 rfl rfl (Y_assign (v := .bool false) rfl rfl) ?_
  refine rw_nil ?_
  refine cw_seq ?_
  refine cw_region ?_
  refine sq 3 rfl rfl (Y_fieldAddr (B := some ⟨b, 0, none⟩) (i := 0) (s := 0) k_fd_89_0_0_3 k_sz_3_1 rfl rfl) ?_
  refine sq 4 rfl rfl (Y_load1 (B := some ⟨b, 0, none⟩) (i := 0) (cs := [.int .i64 x.A, .int .i64 x.B, .int .i64 x.C, .int .i64 x.D]) (v := .int .i64 x.A) k_sc_3 rfl rfl (hS1.cf (i := 0) rfl) rfl) ?_
  obtain ⟨r_1, hc, hF⟩ := bind_inv hF
  refine sc 5 rfl rfl (Yc_func (g := 208) (vs := [.int .i64 x.A]) k_call_208 rfl (mc rfl mn) (c_impl_isCoef x.A _  (hS1.inn0 [] rfl) hc)) ?_
  rintro _ w_1 ⟨rfl, hd⟩
  have hS2 := hS1.out00 hd
  refine sq 6 rfl rfl (Y_move (v := .bool r_1) rfl rfl) ?_
  refine sgq 7 (B := r_1) (v := pt (some ⟨b, 0, none⟩) 1) rfl rfl (wt_t (gd_of (t := 6) (by kernel_rfl) rfl)) (fun hg => (Y_fieldAddr (B := some ⟨b, 0, none⟩) (i := 0) (s := 0) k_fd_89_1_1_3 k_sz_3_1 rfl rfl)) ?_
  refine sgq 8 (B := r_1) (v := .int .i64 x.B) rfl rfl (wt_t (gd_of (t := 6) (by kernel_rfl) rfl)) (fun hg1 => (Y_load1 (B := some ⟨b, 0, none⟩) (i := 1) (cs := [.int .i64 x.A, .int .i64 x.B, .int .i64 x.C, .int .i64 x.D]) (v := .int .i64 x.B) k_sc_3 rfl (gv_of (B := r_1) (v := pt (some ⟨b, 0, none⟩) 1) hg1) (hS2.cf (i := 0) rfl) rfl)) ?_
  obtain ⟨r_2, hc1, hF⟩ := bind_inv hF
  refine sgc 9 (B := r_1) (v := .bool r_2) (F := hS2.fn) rfl rfl (wt_t (gd_of (t := 6) (by kernel_rfl) rfl)) hS2 (fun hg2 => (Yc_func (g := 208) (vs := [.int .i64 x.B]) k_call_208 rfl (mc (gv_of (B := r_1) (v := .int .i64 x.B) hg2) mn) (CV.mono (c_impl_isCoef x.B _  (hS2.inn0 [] rfl) (gb_inv hc1 hg2)) (by rintro _ _ ⟨rfl, h⟩; exact ⟨rfl, hS2.out00 h⟩)))) ?_
  rintro w_2 hS3
  have hS3 : ST _ _ w_2 _ _ := hS3
  refine sq 10 rfl rfl (Y_and (b := r_1) (z := r_2) rfl rfl rfl rfl) ?_
  refine sq 11 rfl rfl (Y_move (v := .bool (r_1 && r_2)) rfl rfl) ?_
  refine sgq 12 (B := (r_1 && r_2)) (v := pt (some ⟨b, 0, none⟩) 2) rfl rfl (wt_t (gd_of (t := 11) (by kernel_rfl) rfl)) (fun hg3 => (Y_fieldAddr (B := some ⟨b, 0, none⟩) (i := 0) (s := 0) k_fd_89_2_2_3 k_sz_3_1 rfl rfl)) ?_
  refine sgq 13 (B := (r_1 && r_2)) (v := .int .i64 x.C) rfl rfl (wt_t (gd_of (t := 11) (by kernel_rfl) rfl)) (fun hg4 => (Y_load1 (B := some ⟨b, 0, none⟩) (i := 2) (cs := [.int .i64 x.A, .int .i64 x.B, .int .i64 x.C, .int .i64 x.D]) (v := .int .i64 x.C) k_sc_3 rfl (gv_of (B := (r_1 && r_2)) (v := pt (some ⟨b, 0, none⟩) 2) hg4) (hS3.cf (i := 0) rfl) rfl)) ?_
  obtain ⟨r_3, hc2, hF⟩ := bind_inv hF
  refine sgc 14 (B := (r_1 && r_2)) (v := .bool r_3) (F := hS3.fn) rfl rfl (wt_t (gd_of (t := 11) (by kernel_rfl) rfl)) hS3 (fun hg5 => (Yc_func (g := 208) (vs := [.int .i64 x.C]) k_call_208 rfl (mc (gv_of (B := (r_1 && r_2)) (v := .int .i64 x.C) hg5) mn) (CV.mono (c_impl_isCoef x.C _  (hS3.inn0 [] rfl) (gb_inv hc2 hg5)) (by rintro _ _ ⟨rfl, h⟩; exact ⟨rfl, hS3.out00 h⟩)))) ?_
  rintro w_3 hS4
  have hS4 : ST _ _ w_3 _ _ := hS4
  refine sq 15 rfl rfl (Y_and (b := (r_1 && r_2)) (z := r_3) rfl rfl rfl rfl) ?_
  refine sq 16 rfl rfl (Y_move (v := .bool ((r_1 && r_2) && r_3)) rfl rfl) ?_
  refine sgq 17 (B := ((r_1 && r_2) && r_3)) (v := pt (some ⟨b, 0, none⟩) 3) rfl rfl (wt_t (gd_of (t := 16) (by kernel_rfl) rfl)) (fun hg6 => (Y_fieldAddr (B := some ⟨b, 0, none⟩) (i := 0) (s := 0) k_fd_89_3_3_3 k_sz_3_1 rfl rfl)) ?_
  refine sgq 18 (B := ((r_1 && r_2) && r_3)) (v := .int .i64 x.D) rfl rfl (wt_t (gd_of (t := 16) (by kernel_rfl) rfl)) (fun hg7 => (Y_load1 (B := some ⟨b, 0, none⟩) (i := 3) (cs := [.int .i64 x.A, .int .i64 x.B, .int .i64 x.C, .int .i64 x.D]) (v := .int .i64 x.D) k_sc_3 rfl (gv_of (B := ((r_1 && r_2) && r_3)) (v := pt (some ⟨b, 0, none⟩) 3) hg7) (hS4.cf (i := 0) rfl) rfl)) ?_
  obtain ⟨r_4, hc3, hF⟩ := bind_inv hF
  refine sgc 19 (B := ((r_1 && r_2) && r_3)) (v := .bool r_4) (F := hS4.fn) rfl rfl (wt_t (gd_of (t := 16) (by kernel_rfl) rfl)) hS4 (fun hg8 => (Yc_func (g := 208) (vs := [.int .i64 x.D]) k_call_208 rfl (mc (gv_of (B := ((r_1 && r_2) && r_3)) (v := .int .i64 x.D) hg8) mn) (CV.mono (c_impl_isCoef x.D _  (hS4.inn0 [] rfl) (gb_inv hc3 hg8)) (by rintro _ _ ⟨rfl, h⟩; exact ⟨rfl, hS4.out00 h⟩)))) ?_
  rintro w_4 hS5
  have hS5 : ST _ _ w_4 _ _ := hS5
  refine sq 20 rfl rfl (Y_and (b := ((r_1 && r_2) && r_3)) (z := r_4) rfl rfl rfl rfl) ?_
  refine sq 2 rfl rfl (Y_assign (v := .bool (((r_1 && r_2) && r_3) && r_4)) rfl rfl) ?_
  refine rw_nil ?_
  refine cw_ret ?_
  obtain rfl := some_inj hF
  exact ret1 Try.results185 (v1 := .bool (((r_1 && r_2) && r_3) && r_4)) (resAt_tmp rfl) ⟨rfl, (ST.subR (R' := []) (hS5.sel [] rfl rfl) (fun _ h => by cases h))⟩

theorem c_impl_isEven (x : TRing)  (w0 : World)  (hS : ST w0 [] w0 [] []) {r_ : Bool} (hF : F_impl_isEven x = some r_) :
    CV Try.prog 186 #[.agg #[.int .i64 x.A, .int .i64 x.B, .int .i64 x.C, .int .i64 x.D]] w0 (fun v w' => v = .bool r_ ∧ ST w0 [] w' [] []) := by
  unfold F_impl_isEven at hF
  refine cv_of_cw 19 Try.func186 rfl Try.ntmps186 rfl ?_
  refine cw_seq ?_
  refine cw_region ?_
  refine ss 1 rfl rfl (Ys_box (T := 89) (v := .agg #[.int .i64 x.A, .int .i64 x.B, .int .i64 x.C, .int .i64 x.D]) (cs := [.int .i64 x.A, .int .i64 x.B, .int .i64 x.C, .int .i64 x.D]) (m := 4) hS rfl rfl rfl rfl) ?_
  rintro _ w_ ⟨b, rfl, hS1⟩
  refine sq 2 rfl rfl (Y_assign (v := .bool false) rfl rfl) ?_
  refine rw_nil ?_
  refine cw_seq ?_
  refine cw_region ?_
  refine sq 3 rfl rfl (Y_fieldAddr (B := some ⟨b, 0, none⟩) (i := 0) (s := 0) k_fd_89_0_0_3 k_sz_3_1 rfl rfl) ?_
  refine sq 4 rfl rfl (Y_load1 (B := some ⟨b, 0, none⟩) (i := 0) (cs := [.int .i64 x.A, .int .i64 x.B, .int .i64 x.C, .int .i64 x.D]) (v := .int .i64 x.A) k_sc_3 rfl rfl (hS1.cf (i := 0) rfl) rfl) ?_
  refine sq 5 rfl rfl (Y_fieldAddr (B := some ⟨b, 0, none⟩) (i := 0) (s := 0) k_fd_89_2_2_3 k_sz_3_1 rfl rfl) ?_
  refine sq 6 rfl rfl (Y_load1 (B := some ⟨b, 0, none⟩) (i := 2) (cs := [.int .i64 x.A, .int .i64 x.B, .int .i64 x.C, .int .i64 x.D]) (v := .int .i64 x.C) k_sc_3 rfl rfl (hS1.cf (i := 0) rfl) rfl) ?_
  refine sq 7 rfl rfl (Y_add (k := .i64) (a := x.A) (b := x.C) rfl rfl rfl) ?_
  refine sq 8 rfl rfl (Y_rem (k := .i64) (a := (IntKind.i64.wrap (x.A + x.C))) (b := 2) rfl rfl rfl (by decide)) ?_
  refine sq 9 rfl rfl (Y_eq (k := .i64) (a := (Int.tmod (IntKind.i64.wrap (x.A + x.C)) 2)) (b := 0) rfl rfl rfl) ?_
  refine sq 10 rfl rfl (Y_move (v := .bool ((Int.tmod (IntKind.i64.wrap (x.A + x.C)) 2) == 0)) rfl rfl) ?_
  refine sgq 11 (B := ((Int.tmod (IntKind.i64.wrap (x.A + x.C)) 2) == 0)) (v := pt (some ⟨b, 0, none⟩) 1) rfl rfl (wt_t (gd_of (t := 10) (by kernel_rfl) rfl)) (fun hg => (Y_fieldAddr (B := some ⟨b, 0, none⟩) (i := 0) (s := 0) k_fd_89_1_1_3 k_sz_3_1 rfl rfl)) ?_
  refine sgq 12 (B := ((Int.tmod (IntKind.i64.wrap (x.A + x.C)) 2) == 0)) (v := .int .i64 x.B) rfl rfl (wt_t (gd_of (t := 10) (by kernel_rfl) rfl)) (fun hg1 => (Y_load1 (B := some ⟨b, 0, none⟩) (i := 1) (cs := [.int .i64 x.A, .int .i64 x.B, .int .i64 x.C, .int .i64 x.D]) (v := .int .i64 x.B) k_sc_3 rfl (gv_of (B := ((Int.tmod (IntKind.i64.wrap (x.A + x.C)) 2) == 0)) (v := pt (some ⟨b, 0, none⟩) 1) hg1) (hS1.cf (i := 0) rfl) rfl)) ?_
  refine sgq 13 (B := ((Int.tmod (IntKind.i64.wrap (x.A + x.C)) 2) == 0)) (v := pt (some ⟨b, 0, none⟩) 3) rfl rfl (wt_t (gd_of (t := 10) (by kernel_rfl) rfl)) (fun hg2 => (Y_fieldAddr (B := some ⟨b, 0, none⟩) (i := 0) (s := 0) k_fd_89_3_3_3 k_sz_3_1 rfl rfl)) ?_
  refine sgq 14 (B := ((Int.tmod (IntKind.i64.wrap (x.A + x.C)) 2) == 0)) (v := .int .i64 x.D) rfl rfl (wt_t (gd_of (t := 10) (by kernel_rfl) rfl)) (fun hg3 => (Y_load1 (B := some ⟨b, 0, none⟩) (i := 3) (cs := [.int .i64 x.A, .int .i64 x.B, .int .i64 x.C, .int .i64 x.D]) (v := .int .i64 x.D) k_sc_3 rfl (gv_of (B := ((Int.tmod (IntKind.i64.wrap (x.A + x.C)) 2) == 0)) (v := pt (some ⟨b, 0, none⟩) 3) hg3) (hS1.cf (i := 0) rfl) rfl)) ?_
  refine sgq 15 (B := ((Int.tmod (IntKind.i64.wrap (x.A + x.C)) 2) == 0)) (v := .int .i64 (IntKind.i64.wrap (x.B + x.D))) rfl rfl (wt_t (gd_of (t := 10) (by kernel_rfl) rfl)) (fun hg4 => (Y_add (k := .i64) (a := x.B) (b := x.D) rfl (gv_of (B := ((Int.tmod (IntKind.i64.wrap (x.A + x.C)) 2) == 0)) (v := .int .i64 x.B) hg4) (gv_of (B := ((Int.tmod (IntKind.i64.wrap (x.A + x.C)) 2) == 0)) (v := .int .i64 x.D) hg4))) ?_
  refine sgq 16 (B := ((Int.tmod (IntKind.i64.wrap (x.A + x.C)) 2) == 0)) (v := .int .i64 (Int.tmod (IntKind.i64.wrap (x.B + x.D)) 2)) rfl rfl (wt_t (gd_of (t := 10) (by kernel_rfl) rfl)) (fun hg5 => (Y_rem (k := .i64) (a := (IntKind.i64.wrap (x.B + x.D))) (b := 2) rfl (gv_of (B := ((Int.tmod (IntKind.i64.wrap (x.A + x.C)) 2) == 0)) (v := .int .i64 (IntKind.i64.wrap (x.B + x.D))) hg5) rfl (by decide))) ?_
  refine sgq 17 (B := ((Int.tmod (IntKind.i64.wrap (x.A + x.C)) 2) == 0)) (v := .bool ((Int.tmod (IntKind.i64.wrap (x.B + x.D)) 2) == 0)) rfl rfl (wt_t (gd_of (t := 10) (by kernel_rfl) rfl)) (fun hg6 => (Y_eq (k := .i64) (a := (Int.tmod (IntKind.i64.wrap (x.B + x.D)) 2)) (b := 0) rfl (gv_of (B := ((Int.tmod (IntKind.i64.wrap (x.A + x.C)) 2) == 0)) (v := .int .i64 (Int.tmod (IntKind.i64.wrap (x.B + x.D)) 2)) hg6) rfl)) ?_
  refine sq 18 rfl rfl (Y_and (b := ((Int.tmod (IntKind.i64.wrap (x.A + x.C)) 2) == 0)) (z := ((Int.tmod (IntKind.i64.wrap (x.B + x.D)) 2) == 0)) rfl rfl rfl rfl) ?_
  refine sq 2 rfl rfl (Y_assign (v := .bool (((Int.tmod (IntKind.i64.wrap (x.A + x.C)) 2) == 0) && ((Int.tmod (IntKind.i64.wrap (x.B + x.D)) 2) == 0))) rfl rfl) ?_
  refine rw_nil ?_
  refine cw_ret ?_
  obtain rfl := some_inj hF
  exact ret1 Try.results186 (v1 := .bool (((Int.tmod (IntKind.i64.wrap (x.A + x.C)) 2) == 0) && ((Int.tmod (IntKind.i64.wrap (x.B + x.D)) 2) == 0))) (resAt_tmp rfl) ⟨rfl, (ST.subR (R' := []) (hS1.sel [] rfl rfl) (fun _ h => by cases h))⟩

theorem c_impl_IsValidDyadic (x : TDyadic)  (w0 : World)  (hS : ST w0 [] w0 [] []) {r_ : Bool} (hF : F_impl_IsValidDyadic x = some r_) :
    CV Try.prog 134 #[.agg #[.int .i64 x.Num.A, .int .i64 x.Num.B, .int .i64 x.Num.C, .int .i64 x.Num.D, .int .i64 x.Exp]] w0 (fun v w' => v = .bool r_ ∧ ST w0 [] w' [] []) := by
  unfold F_impl_IsValidDyadic at hF
  refine cv_of_cw 22 Try.func134 rfl Try.ntmps134 rfl ?_
  refine cw_seq ?_
  refine cw_region ?_
  refine ss 1 rfl rfl (Ys_box (T := 91) (v := .agg #[.int .i64 x.Num.A, .int .i64 x.Num.B, .int .i64 x.Num.C, .int .i64 x.Num.D, .int .i64 x.Exp]) (cs := [.int .i64 x.Num.A, .int .i64 x.Num.B, .int .i64 x.Num.C, .int .i64 x.Num.D, .int .i64 x.Exp]) (m := 5) hS rfl rfl rfl rfl) ?_
  rintro _ w_ ⟨b, rfl, hS1⟩
  refine sq 2 rfl rfl (Y_assign (v := .bool false) rfl rfl) ?_
  refine rw_nil ?_
  refine cw_seq ?_
  refine cw_region ?_
  refine sq 3 rfl rfl (Y_fieldAddr (B := some ⟨b, 0, none⟩) (i := 0) (s := 3) k_fd_91_0_0_89 k_sz_89_4 rfl rfl) ?_
  refine sq 4 rfl rfl (Y_loadA (B := some ⟨b, 0, none⟩) (i := 0) (cs := [.int .i64 x.Num.A, .int .i64 x.Num.B, .int .i64 x.Num.C, .int .i64 x.Num.D, .int .i64 x.Exp]) (vs := [.int .i64 x.Num.A, .int .i64 x.Num.B, .int .i64 x.Num.C, .int .i64 x.Num.D]) k_ag_89 k_sz_89_4 rfl rfl (hS1.cf (i := 0) rfl) rfl rfl) ?_
  obtain ⟨r_1, hc, hF⟩ := bind_inv hF
  refine sc 5 rfl rfl (Yc_func (g := 185) (vs := [.agg #[.int .i64 x.Num.A, .int .i64 x.Num.B, .int .i64 x.Num.C, .int .i64 x.Num.D]]) k_call_185 rfl (mc rfl mn) (c_impl_IsValidRing x.Num _  (hS1.inn0 [] rfl) hc)) ?_
  rintro _ w_1 ⟨rfl, hd⟩
  have hS2 := hS1.out00 hd
  refine sq 6 rfl rfl (Y_move (v := .bool r_1) rfl rfl) ?_
  refine sgq 7 (B := r_1) (v := pt (some ⟨b, 0, none⟩) 4) rfl rfl (wt_t (gd_of (t := 6) (by kernel_rfl) rfl)) (fun hg => (Y_fieldAddr (B := some ⟨b, 0, none⟩) (i := 0) (s := 0) k_fd_91_1_4_3 k_sz_3_1 rfl rfl)) ?_
  refine sgq 8 (B := r_1) (v := .int .i64 x.Exp) rfl rfl (wt_t (gd_of (t := 6) (by kernel_rfl) rfl)) (fun hg1 => (Y_load1 (B := some ⟨b, 0, none⟩) (i := 4) (cs := [.int .i64 x.Num.A, .int .i64 x.Num.B, .int .i64 x.Num.C, .int .i64 x.Num.D, .int .i64 x.Exp]) (v := .int .i64 x.Exp) k_sc_3 rfl (gv_of (B := r_1) (v := pt (some ⟨b, 0, none⟩) 4) hg1) (hS2.cf (i := 0) rfl) rfl)) ?_
  obtain ⟨r_2, hc1, hF⟩ := bind_inv hF
  refine sgc 9 (B := r_1) (v := .bool r_2) (F := hS2.fn) rfl rfl (wt_t (gd_of (t := 6) (by kernel_rfl) rfl)) hS2 (fun hg2 => (Yc_func (g := 145) (vs := [.int .i64 x.Exp, .int .i64 0, .int .i64 60]) k_call_145 rfl (mc (gv_of (B := r_1) (v := .int .i64 x.Exp) hg2) (mc rfl (mc rfl mn))) (CV.mono (c_impl_within x.Exp 0 60 _  (hS2.inn0 [] rfl) (gb_inv hc1 hg2)) (by rintro _ _ ⟨rfl, h⟩; exact ⟨rfl, hS2.out00 h⟩)))) ?_
  rintro w_2 hS3
  have hS3 : ST _ _ w_2 _ _ := hS3
  refine sq 10 rfl rfl (Y_and (b := r_1) (z := r_2) rfl rfl rfl rfl) ?_
  refine sq 11 rfl rfl (Y_move (v := .bool (r_1 && r_2)) rfl rfl) ?_
  refine sgq 12 (B := (r_1 && r_2)) (v := pt (some ⟨b, 0, none⟩) 4) rfl rfl (wt_t (gd_of (t := 11) (by kernel_rfl) rfl)) (fun hg3 => (Y_fieldAddr (B := some ⟨b, 0, none⟩) (i := 0) (s := 0) k_fd_91_1_4_3 k_sz_3_1 rfl rfl)) ?_
  refine sgq 13 (B := (r_1 && r_2)) (v := .int .i64 x.Exp) rfl rfl (wt_t (gd_of (t := 11) (by kernel_rfl) rfl)) (fun hg4 => (Y_load1 (B := some ⟨b, 0, none⟩) (i := 4) (cs := [.int .i64 x.Num.A, .int .i64 x.Num.B, .int .i64 x.Num.C, .int .i64 x.Num.D, .int .i64 x.Exp]) (v := .int .i64 x.Exp) k_sc_3 rfl (gv_of (B := (r_1 && r_2)) (v := pt (some ⟨b, 0, none⟩) 4) hg4) (hS3.cf (i := 0) rfl) rfl)) ?_
  refine sgq 14 (B := (r_1 && r_2)) (v := .bool (x.Exp == 0)) rfl rfl (wt_t (gd_of (t := 11) (by kernel_rfl) rfl)) (fun hg5 => (Y_eq (k := .i64) (a := x.Exp) (b := 0) rfl (gv_of (B := (r_1 && r_2)) (v := .int .i64 x.Exp) hg5) rfl)) ?_
  refine sgq 15 (B := (r_1 && r_2)) (v := .bool (x.Exp == 0)) rfl rfl (wt_t (gd_of (t := 11) (by kernel_rfl) rfl)) (fun hg6 => (Y_move (v := .bool (x.Exp == 0)) rfl (gv_of (B := (r_1 && r_2)) (v := .bool (x.Exp == 0)) hg6))) ?_
  refine sgq 16 (B := ((r_1 && r_2) && (!(x.Exp == 0)))) (v := pt (some ⟨b, 0, none⟩) 0) rfl rfl (wt_gf (gd_of (t := 15) (by kernel_rfl) rfl)) (fun hg7 => (Y_fieldAddr (B := some ⟨b, 0, none⟩) (i := 0) (s := 3) k_fd_91_0_0_89 k_sz_89_4 rfl rfl)) ?_
  refine sgq 17 (B := ((r_1 && r_2) && (!(x.Exp == 0)))) (v := .agg #[.int .i64 x.Num.A, .int .i64 x.Num.B, .int .i64 x.Num.C, .int .i64 x.Num.D]) rfl rfl (wt_gf (gd_of (t := 15) (by kernel_rfl) rfl)) (fun hg8 => (Y_loadA (B := some ⟨b, 0, none⟩) (i := 0) (cs := [.int .i64 x.Num.A, .int .i64 x.Num.B, .int .i64 x.Num.C, .int .i64 x.Num.D, .int .i64 x.Exp]) (vs := [.int .i64 x.Num.A, .int .i64 x.Num.B, .int .i64 x.Num.C, .int .i64 x.Num.D]) k_ag_89 k_sz_89_4 rfl (gv_of (B := ((r_1 && r_2) && (!(x.Exp == 0)))) (v := pt (some ⟨b, 0, none⟩) 0) hg8) (hS3.cf (i := 0) rfl) rfl rfl)) ?_
  obtain ⟨r_3, hc2, hF⟩ := bind_inv hF
  refine sgc 18 (B := ((r_1 && r_2) && (!(x.Exp == 0)))) (v := .bool r_3) (F := hS3.fn) rfl rfl (wt_gf (gd_of (t := 15) (by kernel_rfl) rfl)) hS3 (fun hg9 => (Yc_func (g := 186) (vs := [.agg #[.int .i64 x.Num.A, .int .i64 x.Num.B, .int .i64 x.Num.C, .int .i64 x.Num.D]]) k_call_186 rfl (mc (gv_of (B := ((r_1 && r_2) && (!(x.Exp == 0)))) (v := .agg #[.int .i64 x.Num.A, .int .i64 x.Num.B, .int .i64 x.Num.C, .int .i64 x.Num.D]) hg9) mn) (CV.mono (c_impl_isEven x.Num _  (hS3.inn0 [] rfl) (gb_inv hc2 hg9)) (by rintro _ _ ⟨rfl, h⟩; exact ⟨rfl, hS3.out00 h⟩)))) ?_
  rintro w_3 hS4
  have hS4 : ST _ _ w_3 _ _ := hS4
  refine sgq 19 (B := ((r_1 && r_2) && (!(x.Exp == 0)))) (v := .bool (!r_3)) rfl rfl (wt_gf (gd_of (t := 15) (by kernel_rfl) rfl)) (fun hg10 => (Y_not (p := r_3) rfl (gv_of (B := ((r_1 && r_2) && (!(x.Exp == 0)))) (v := .bool r_3) hg10))) ?_
  refine sgq 20 (B := (r_1 && r_2)) (v := .bool ((x.Exp == 0) || (!r_3))) rfl rfl (wt_t (gd_of (t := 11) (by kernel_rfl) rfl)) (fun hg11 => (Y_or (b := (x.Exp == 0)) (z := (!r_3)) rfl (gv_of (B := (r_1 && r_2)) (v := .bool (x.Exp == 0)) hg11) rfl (gv_and (B := (r_1 && r_2)) (C := (!(x.Exp == 0))) (v := .bool (!r_3)) hg11))) ?_
  refine sq 21 rfl rfl (Y_and (b := (r_1 && r_2)) (z := ((x.Exp == 0) || (!r_3))) rfl rfl rfl rfl) ?_
  refine sq 2 rfl rfl (Y_assign (v := .bool ((r_1 && r_2) && ((x.Exp == 0) || (!r_3)))) rfl rfl) ?_
  refine rw_nil ?_
  refine cw_ret ?_
  obtain rfl := some_inj hF
  exact ret1 Try.results134 (v1 := .bool ((r_1 && r_2) && ((x.Exp == 0) || (!r_3)))) (resAt_tmp rfl) ⟨rfl, (ST.subR (R' := []) (hS4.sel [] rfl rfl) (fun _ h => by cases h))⟩

theorem c_impl_IsValidMatrix_1 (x : TDyadic)  (w0 : World)  (hS : ST w0 [] w0 [] []) {r_ : Bool} (hF : F_impl_IsValidMatrix_1 x = some r_) :
    CV Try.prog 155 #[.agg #[.int .i64 x.Num.A, .int .i64 x.Num.B, .int .i64 x.Num.C, .int .i64 x.Num.D, .int .i64 x.Exp]] w0 (fun v w' => v = .bool r_ ∧ ST w0 [] w' [] []) := by
  unfold F_impl_IsValidMatrix_1 at hF
  refine cv_of_cw 6 Try.func155 rfl Try.ntmps155 rfl ?_
  refine cw_seq ?_
  refine cw_region ?_
  refine ss 1 rfl rfl (Ys_box (T := 91) (v := .agg #[.int .i64 x.Num.A, .int .i64 x.Num.B, .int .i64 x.Num.C, .int .i64 x.Num.D, .int .i64 x.Exp]) (cs := [.int .i64 x.Num.A, .int .i64 x.Num.B, .int .i64 x.Num.C, .int .i64 x.Num.D, .int .i64 x.Exp]) (m := 5) hS rfl rfl rfl rfl) ?_
  rintro _ w_ ⟨b, rfl, hS1⟩
  refine sq 2 rfl rfl (Y_assign (v := .bool false) rfl rfl) ?_
  refine rw_nil ?_
  refine cw_seq ?_
  refine cw_region ?_
  refine sq 3 rfl rfl (Y_loadA (B := some ⟨b, 0, none⟩) (i := 0) (cs := [.int .i64 x.Num.A, .int .i64 x.Num.B, .int .i64 x.Num.C, .int .i64 x.Num.D, .int .i64 x.Exp]) (vs := [.int .i64 x.Num.A, .int .i64 x.Num.B, .int .i64 x.Num.C, .int .i64 x.Num.D, .int .i64 x.Exp]) k_ag_91 k_sz_91_5 rfl rfl (hS1.cf (i := 0) rfl) rfl rfl) ?_
  obtain ⟨r_1, hc, hF⟩ := bind_inv hF
  refine sc 4 rfl rfl (Yc_func (g := 134) (vs := [.agg #[.int .i64 x.Num.A, .int .i64 x.Num.B, .int .i64 x.Num.C, .int .i64 x.Num.D, .int .i64 x.Exp]]) k_call_134 rfl (mc rfl mn) (c_impl_IsValidDyadic x _  (hS1.inn0 [] rfl) hc)) ?_
  rintro _ w_1 ⟨rfl, hd⟩
  have hS2 := hS1.out00 hd
  refine sq 5 rfl rfl (Y_not (p := r_1) rfl rfl) ?_
  refine sq 2 rfl rfl (Y_assign (v := .bool (!r_1)) rfl rfl) ?_
  refine rw_nil ?_
  refine cw_ret ?_
  obtain rfl := some_inj hF
  exact ret1 Try.results155 (v1 := .bool (!r_1)) (resAt_tmp rfl) ⟨rfl, (ST.subR (R' := []) (hS2.sel [] rfl rfl) (fun _ h => by cases h))⟩

theorem c_impl_IsValidMatrix (m : TMatrix) (B : Option Addr) (c n : Nat) (w0 : World) (hn : m.Cells.length = n) (hS : ST w0 [] w0 [] [⟨B, (m.Cells.flatMap enc_Dyadic)⟩]) {r_ : Bool} (hF : F_impl_IsValidMatrix m = some r_) :
    CV Try.prog 99 #[.agg #[.int .i64 m.Rows, .int .i64 m.Cols, .slice B n c]] w0 (fun v w' => v = .bool r_ ∧ ST w0 [] w' [] []) := by
  subst hn
  unfold F_impl_IsValidMatrix at hF
  refine cv_of_cw 28 Try.func99 rfl Try.ntmps99 rfl ?_
  refine cw_seq ?_
  refine cw_region ?_
  refine ss 1 rfl rfl (Ys_box (T := 62) (v := .agg #[.int .i64 m.Rows, .int .i64 m.Cols, .slice B m.Cells.length c]) (cs := [.int .i64 m.Rows, .int .i64 m.Cols, .slice B m.Cells.length c]) (m := 3) hS rfl rfl rfl rfl) ?_
  rintro _ w_ ⟨b, rfl, hS1⟩
  refine sq 2 rfl rfl (Y_assign (v := .bool false) rfl rfl) ?_
  refine rw_nil ?_
  refine cw_seq ?_
  refine cw_region ?_
  refine sq 3 rfl rfl (Y_fieldAddr (B := some ⟨b, 0, none⟩) (i := 0) (s := 0) k_fd_62_0_0_3 k_sz_3_1 rfl rfl) ?_
  refine sq 4 rfl rfl (Y_load1 (B := some ⟨b, 0, none⟩) (i := 0) (cs := [.int .i64 m.Rows, .int .i64 m.Cols, .slice B m.Cells.length c]) (v := .int .i64 m.Rows) k_sc_3 rfl rfl (hS1.cf (i := 0) rfl) rfl) ?_
  obtain ⟨r_1, hc, hF⟩ := bind_inv hF
  refine sc 5 rfl rfl (Yc_func (g := 154) (vs := [.int .i64 m.Rows]) k_call_154 rfl (mc rfl mn) (c_impl_isDim m.Rows _  (hS1.inn0 [] rfl) hc)) ?_
  rintro _ w_1 ⟨rfl, hd⟩
  have hS2 := hS1.out00 hd
  refine sq 6 rfl rfl (Y_move (v := .bool r_1) rfl rfl) ?_
  refine sgq 7 (B := r_1) (v := pt (some ⟨b, 0, none⟩) 1) rfl rfl (wt_t (gd_of (t := 6) (by kernel_rfl) rfl)) (fun hg => (Y_fieldAddr (B := some ⟨b, 0, none⟩) (i := 0) (s := 0) k_fd_62_1_1_3 k_sz_3_1 rfl rfl)) ?_
  refine sgq 8 (B := r_1) (v := .int .i64 m.Cols) rfl rfl (wt_t (gd_of (t := 6) (by kernel_rfl) rfl)) (fun hg1 => (Y_load1 (B := some ⟨b, 0, none⟩) (i := 1) (cs := [.int .i64 m.Rows, .int .i64 m.Cols, .slice B m.Cells.length c]) (v := .int .i64 m.Cols) k_sc_3 rfl (gv_of (B := r_1) (v := pt (some ⟨b, 0, none⟩) 1) hg1) (hS2.cf (i := 0) rfl) rfl)) ?_
  obtain ⟨r_2, hc1, hF⟩ := bind_inv hF
  refine sgc 9 (B := r_1) (v := .bool r_2) (F := hS2.fn) rfl rfl (wt_t (gd_of (t := 6) (by kernel_rfl) rfl)) hS2 (fun hg2 => (Yc_func (g := 154) (vs := [.int .i64 m.Cols]) k_call_154 rfl (mc (gv_of (B := r_1) (v := .int .i64 m.Cols) hg2) mn) (CV.mono (c_impl_isDim m.Cols _  (hS2.inn0 [] rfl) (gb_inv hc1 hg2)) (by rintro _ _ ⟨rfl, h⟩; exact ⟨rfl, hS2.out00 h⟩)))) ?_
  rintro w_2 hS3
  have hS3 : ST _ _ w_2 _ _ := hS3
  refine sq 10 rfl rfl (Y_and (b := r_1) (z := r_2) rfl rfl rfl rfl) ?_
  refine sq 11 rfl rfl (Y_move (v := .bool (r_1 && r_2)) rfl rfl) ?_
  refine sgq 12 (B := (r_1 && r_2)) (v := pt (some ⟨b, 0, none⟩) 2) rfl rfl (wt_t (gd_of (t := 11) (by kernel_rfl) rfl)) (fun hg3 => (Y_fieldAddr (B := some ⟨b, 0, none⟩) (i := 0) (s := 0) k_fd_62_2_2_27 k_sz_27_1 rfl rfl)) ?_
  refine sgq 13 (B := (r_1 && r_2)) (v := .slice B m.Cells.length c) rfl rfl (wt_t (gd_of (t := 11) (by kernel_rfl) rfl)) (fun hg4 => (Y_load1 (B := some ⟨b, 0, none⟩) (i := 2) (cs := [.int .i64 m.Rows, .int .i64 m.Cols, .slice B m.Cells.length c]) (v := .slice B m.Cells.length c) k_sc_27 rfl (gv_of (B := (r_1 && r_2)) (v := pt (some ⟨b, 0, none⟩) 2) hg4) (hS3.cf (i := 0) rfl) rfl)) ?_
  refine sgq 14 (B := (r_1 && r_2)) (v := .int .i64 (m.Cells.length : Int)) rfl rfl (wt_t (gd_of (t := 11) (by kernel_rfl) rfl)) (fun hg5 => (Y_len (B := B) (m := m.Cells.length) (c := c) k_sl_27_91 rfl (gv_of (B := (r_1 && r_2)) (v := .slice B m.Cells.length c) hg5))) ?_
  refine sgq 15 (B := (r_1 && r_2)) (v := pt (some ⟨b, 0, none⟩) 0) rfl rfl (wt_t (gd_of (t := 11) (by kernel_rfl) rfl)) (fun hg6 => (Y_fieldAddr (B := some ⟨b, 0, none⟩) (i := 0) (s := 0) k_fd_62_0_0_3 k_sz_3_1 rfl rfl)) ?_
  refine sgq 16 (B := (r_1 && r_2)) (v := .int .i64 m.Rows) rfl rfl (wt_t (gd_of (t := 11) (by kernel_rfl) rfl)) (fun hg7 => (Y_load1 (B := some ⟨b, 0, none⟩) (i := 0) (cs := [.int .i64 m.Rows, .int .i64 m.Cols, .slice B m.Cells.length c]) (v := .int .i64 m.Rows) k_sc_3 rfl (gv_of (B := (r_1 && r_2)) (v := pt (some ⟨b, 0, none⟩) 0) hg7) (hS3.cf (i := 0) rfl) rfl)) ?_
  refine sgq 17 (B := (r_1 && r_2)) (v := pt (some ⟨b, 0, none⟩) 1) rfl rfl (wt_t (gd_of (t := 11) (by kernel_rfl) rfl)) (fun hg8 => (Y_fieldAddr (B := some ⟨b, 0, none⟩) (i := 0) (s := 0) k_fd_62_1_1_3 k_sz_3_1 rfl rfl)) ?_
  refine sgq 18 (B := (r_1 && r_2)) (v := .int .i64 m.Cols) rfl rfl (wt_t (gd_of (t := 11) (by kernel_rfl) rfl)) (fun hg9 => (Y_load1 (B := some ⟨b, 0, none⟩) (i := 1) (cs := [.int .i64 m.Rows, .int .i64 m.Cols, .slice B m.Cells.length c]) (v := .int .i64 m.Cols) k_sc_3 rfl (gv_of (B := (r_1 && r_2)) (v := pt (some ⟨b, 0, none⟩) 1) hg9) (hS3.cf (i := 0) rfl) rfl)) ?_
  refine sgq 19 (B := (r_1 && r_2)) (v := .int .i64 (IntKind.i64.wrap (m.Rows * m.Cols))) rfl rfl (wt_t (gd_of (t := 11) (by kernel_rfl) rfl)) (fun hg10 => (Y_mul (k := .i64) (a := m.Rows) (b := m.Cols) rfl (gv_of (B := (r_1 && r_2)) (v := .int .i64 m.Rows) hg10) (gv_of (B := (r_1 && r_2)) (v := .int .i64 m.Cols) hg10))) ?_
  refine sgq 20 (B := (r_1 && r_2)) (v := .bool ((m.Cells.length : Int) == (IntKind.i64.wrap (m.Rows * m.Cols)))) rfl rfl (wt_t (gd_of (t := 11) (by kernel_rfl) rfl)) (fun hg11 => (Y_eq (k := .i64) (a := (m.Cells.length : Int)) (b := (IntKind.i64.wrap (m.Rows * m.Cols))) rfl (gv_of (B := (r_1 && r_2)) (v := .int .i64 (m.Cells.length : Int)) hg11) (gv_of (B := (r_1 && r_2)) (v := .int .i64 (IntKind.i64.wrap (m.Rows * m.Cols))) hg11))) ?_
  refine sq 21 rfl rfl (Y_and (b := (r_1 && r_2)) (z := ((m.Cells.length : Int) == (IntKind.i64.wrap (m.Rows * m.Cols)))) rfl rfl rfl rfl) ?_
  refine sq 22 rfl rfl (Y_move (v := .bool ((r_1 && r_2) && ((m.Cells.length : Int) == (IntKind.i64.wrap (m.Rows * m.Cols))))) rfl rfl) ?_
  refine sgq 23 (B := ((r_1 && r_2) && ((m.Cells.length : Int) == (IntKind.i64.wrap (m.Rows * m.Cols))))) (v := pt (some ⟨b, 0, none⟩) 2) rfl rfl (wt_t (gd_of (t := 22) (by kernel_rfl) rfl)) (fun hg12 => (Y_fieldAddr (B := some ⟨b, 0, none⟩) (i := 0) (s := 0) k_fd_62_2_2_27 k_sz_27_1 rfl rfl)) ?_
  refine sgq 24 (B := ((r_1 && r_2) && ((m.Cells.length : Int) == (IntKind.i64.wrap (m.Rows * m.Cols))))) (v := .slice B m.Cells.length c) rfl rfl (wt_t (gd_of (t := 22) (by kernel_rfl) rfl)) (fun hg13 => (Y_load1 (B := some ⟨b, 0, none⟩) (i := 2) (cs := [.int .i64 m.Rows, .int .i64 m.Cols, .slice B m.Cells.length c]) (v := .slice B m.Cells.length c) k_sc_27 rfl (gv_of (B := ((r_1 && r_2) && ((m.Cells.length : Int) == (IntKind.i64.wrap (m.Rows * m.Cols))))) (v := pt (some ⟨b, 0, none⟩) 2) hg13) (hS3.cf (i := 0) rfl) rfl)) ?_
  obtain ⟨r_3, hc2, hF⟩ := bind_inv hF
  refine sgc 25 (B := ((r_1 && r_2) && ((m.Cells.length : Int) == (IntKind.i64.wrap (m.Rows * m.Cols))))) (v := .bool r_3) (F := hS3.fn) rfl rfl (wt_t (gd_of (t := 22) (by kernel_rfl) rfl)) hS3 (fun hg14 => (Yc_func (g := 61) (vs := [.slice B m.Cells.length c, .func (.func 155) #[] #[]]) k_call_61 rfl (mc (gv_of (B := ((r_1 && r_2) && ((m.Cells.length : Int) == (IntKind.i64.wrap (m.Rows * m.Cols))))) (v := .slice B m.Cells.length c) hg14) (mc rfl mn)) (CV.mono (c_slices_ContainsFunc_impl_Dyadic_impl_Dyadic m.Cells F_impl_IsValidMatrix_1 B c m.Cells.length 155 (#[]) [] _ rfl k_call_155 (fun w hw x_0 y_0 h_ => c_impl_IsValidMatrix_1 x_0  w  hw h_) (hS3.inn0 [(true, 0)] rfl) (gb_inv hc2 hg14)) (by rintro _ _ ⟨rfl, h⟩; exact ⟨rfl, hS3.out00 h⟩)))) ?_
  rintro w_3 hS4
  have hS4 : ST _ _ w_3 _ _ := hS4
  refine sgq 26 (B := ((r_1 && r_2) && ((m.Cells.length : Int) == (IntKind.i64.wrap (m.Rows * m.Cols))))) (v := .bool (!r_3)) rfl rfl (wt_t (gd_of (t := 22) (by kernel_rfl) rfl)) (fun hg15 => (Y_not (p := r_3) rfl (gv_of (B := ((r_1 && r_2) && ((m.Cells.length : Int) == (IntKind.i64.wrap (m.Rows * m.Cols))))) (v := .bool r_3) hg15))) ?_
  refine sq 27 rfl rfl (Y_and (b := ((r_1 && r_2) && ((m.Cells.length : Int) == (IntKind.i64.wrap (m.Rows * m.Cols))))) (z := (!r_3)) rfl rfl rfl rfl) ?_
  refine sq 2 rfl rfl (Y_assign (v := .bool (((r_1 && r_2) && ((m.Cells.length : Int) == (IntKind.i64.wrap (m.Rows * m.Cols)))) && (!r_3))) rfl rfl) ?_
  refine rw_nil ?_
  refine cw_ret ?_
  obtain rfl := some_inj hF
  exact ret1 Try.results99 (v1 := .bool (((r_1 && r_2) && ((m.Cells.length : Int) == (IntKind.i64.wrap (m.Rows * m.Cols)))) && (!r_3))) (resAt_tmp rfl) ⟨rfl, (ST.subR (R' := []) (hS4.sel [] rfl rfl) (fun _ h => by cases h))⟩

theorem c_impl_matrixOf (rows : Int) (cols : Int) (cell : Int → Int → Option (TDyadic × Bool)) (kf : Nat) (caps : Array Value) (Rf : List Ro) (w0 : World) (hk : callB Try.prog kf = true) (hp : ∀ (w : World), ST w [] w [] Rf → ∀ (x : Int) (x1 : Int) (y1 : TDyadic) (y2 : Bool), cell x x1 = some (y1, y2) → CV Try.prog kf ((.int .i64 x) :: (.int .i64 x1) :: caps.toList).toArray w (fun v w' => v = .tuple #[.agg #[.int .i64 y1.Num.A, .int .i64 y1.Num.B, .int .i64 y1.Num.C, .int .i64 y1.Num.D, .int .i64 y1.Exp], .bool y2] ∧ ST w [] w' [] [])) (hS : ST w0 [] w0 [] (Rf)) {r_ : TMatrix} {r_1 : Bool} (hF : F_impl_matrixOf rows cols cell = some (r_, r_1)) :
    CV Try.prog 109 #[.int .i64 rows, .int .i64 cols, .func (.func kf) #[] caps] w0 (fun v w' => ∃ (B : Option Addr) (c : Nat), v = .tuple #[.agg #[.int .i64 r_.Rows, .int .i64 r_.Cols, .slice B r_.Cells.length c], .bool r_1] ∧ ST w0 [] w' [⟨B, 91, (r_.Cells.flatMap enc_Dyadic), c * 5⟩] []) := by
  unfold F_impl_matrixOf at hF
  refine cv_of_cw 52 Try.func109 rfl Try.ntmps109 rfl ?_
  refine cw_seq ?_
  refine cw_region ?_
  refine ss 6 rfl rfl (Ys_alloc (T := 62) (cs := [.int .i64 0, .int .i64 0, .slice none 0 0]) (m := 3) hS k_zero_62 rfl rfl rfl) ?_
  rintro _ w_ ⟨b, rfl, hS1⟩
  refine sq 7 rfl rfl (Y_assign (v := .bool false) rfl rfl) ?_
  refine rw_nil ?_
  refine cw_seq ?_
  refine cw_region ?_
  refine sq 13 rfl rfl (Y_move (v := .int .i64 rows) rfl rfl) ?_
  refine sq 14 rfl rfl (Y_move (v := .int .i64 cols) rfl rfl) ?_
  refine sq 15 rfl rfl (Y_buildS (zs := [.int .i64 0, .int .i64 0, .slice none 0 0]) (vs := [(0, .int .i64 rows), (1, .int .i64 cols)]) (cs := [.int .i64 rows, .int .i64 cols, .slice none 0 0]) k_pl_62 k_zero_62 rfl (mpc rfl (mpc rfl mpn)) rfl) ?_
  refine ss 8 rfl rfl (Ys_alloc (T := 62) (cs := [.int .i64 0, .int .i64 0, .slice none 0 0]) (m := 3) hS1 k_zero_62 rfl rfl rfl) ?_
  rintro _ w_1 ⟨b1, rfl, hS2⟩
  have hS2 : ST w0 [] _ [⟨some ⟨b, 0, none⟩, 62, [.int .i64 0, .int .i64 0, .slice none 0 0], 3⟩, ⟨some ⟨b1, 0, none⟩, 62, [.int .i64 0, .int .i64 0, .slice none 0 0], 3⟩] (Rf) := hS2
  refine ss0 rfl rfl (Ys_store (i := 1) (s := 3) (B := some ⟨b1, 0, none⟩) (T' := 62) (v := .agg #[.int .i64 rows, .int .i64 cols, .slice none 0 0]) (vs := [.int .i64 rows, .int .i64 cols, .slice none 0 0]) (k := 0) (cs' := [.int .i64 rows, .int .i64 cols, .slice none 0 0]) hS2 k_sz_62_3 rfl rfl rfl rfl rfl rfl rfl (Nat.le_of_ble_eq_true rfl) rfl rfl) ?_
  rintro _ w_2 ⟨rfl, hS3⟩
  have hS3 : ST w0 [] _ [⟨some ⟨b, 0, none⟩, 62, [.int .i64 0, .int .i64 0, .slice none 0 0], 3⟩, ⟨some ⟨b1, 0, none⟩, 62, [.int .i64 rows, .int .i64 cols, .slice none 0 0], 3⟩] (Rf) := hS3
  refine rw_nil ?_
  refine cw_seq ?_
  refine cw_seq ?_
  refine cw_region ?_
  refine sq 16 rfl rfl (Y_move (v := .int .i64 rows) rfl rfl) ?_
  obtain ⟨r_2, hc, hF⟩ := bind_inv hF
  refine sc 17 rfl rfl (Yc_func (g := 154) (vs := [.int .i64 rows]) k_call_154 rfl (mc rfl mn) (c_impl_isDim rows _  (hS3.inn0 [] rfl) hc)) ?_
  rintro _ w_3 ⟨rfl, hd⟩
  have hS4 := hS3.out00 hd
  have hS4 : ST w0 [] _ [⟨some ⟨b, 0, none⟩, 62, [.int .i64 0, .int .i64 0, .slice none 0 0], 3⟩, ⟨some ⟨b1, 0, none⟩, 62, [.int .i64 rows, .int .i64 cols, .slice none 0 0], 3⟩] (Rf) := hS4
  refine sq 18 rfl rfl (Y_not (p := r_2) rfl rfl) ?_
  refine sq 19 rfl rfl (Y_move (v := .bool (!r_2)) rfl rfl) ?_
  refine sgq 20 (B := (!(!r_2))) (v := .int .i64 cols) rfl rfl (wt_f (gd_of (t := 19) (by kernel_rfl) rfl)) (fun hg => (Y_move (v := .int .i64 cols) rfl rfl)) ?_
  obtain ⟨r_3, hc1, hF⟩ := bind_inv hF
  refine sgc 21 (B := (!(!r_2))) (v := .bool r_3) (F := hS4.fn) rfl rfl (wt_f (gd_of (t := 19) (by kernel_rfl) rfl)) hS4 (fun hg1 => (Yc_func (g := 154) (vs := [.int .i64 cols]) k_call_154 rfl (mc (gv_of (B := (!(!r_2))) (v := .int .i64 cols) hg1) mn) (CV.mono (c_impl_isDim cols _  (hS4.inn0 [] rfl) (gb_inv hc1 hg1)) (by rintro _ _ ⟨rfl, h⟩; exact ⟨rfl, hS4.out00 h⟩)))) ?_
  rintro w_4 hS5
  have hS5 : ST _ _ w_4 _ _ := hS5
  refine sgq 22 (B := (!(!r_2))) (v := .bool (!r_3)) rfl rfl (wt_f (gd_of (t := 19) (by kernel_rfl) rfl)) (fun hg2 => (Y_not (p := r_3) rfl (gv_of (B := (!(!r_2))) (v := .bool r_3) hg2))) ?_
  refine sq 23 rfl rfl (Y_or (b := (!r_2)) (z := (!r_3)) rfl rfl rfl rfl) ?_
  refine rw_nil ?_
  refine cw_cond (b := ((!r_2) || (!r_3))) rfl (fun hb => ?_) (fun hb => ?_)
  · skip
    have hF1 := ct hF hb
    refine cw_seq ?_
    refine cw_region ?_
    refine sq 24 rfl rfl (Y_buildS (zs := [.int .i64 0, .int .i64 0, .slice none 0 0]) (vs := []) (cs := [.int .i64 0, .int .i64 0, .slice none 0 0]) k_pl_62 k_zero_62 rfl mpn rfl) ?_
    refine ss0 rfl rfl (Ys_store (i := 0) (s := 3) (B := some ⟨b, 0, none⟩) (T' := 62) (v := .agg #[.int .i64 0, .int .i64 0, .slice none 0 0]) (vs := [.int .i64 0, .int .i64 0, .slice none 0 0]) (k := 0) (cs' := [.int .i64 0, .int .i64 0, .slice none 0 0]) hS5 k_sz_62_3 rfl rfl rfl rfl rfl rfl rfl (Nat.le_of_ble_eq_true rfl) rfl rfl) ?_
    rintro _ w_5 ⟨rfl, hS6⟩
    have hS6 : ST w0 [] _ [⟨some ⟨b, 0, none⟩, 62, [.int .i64 0, .int .i64 0, .slice none 0 0], 3⟩, ⟨some ⟨b1, 0, none⟩, 62, [.int .i64 rows, .int .i64 cols, .slice none 0 0], 3⟩] (Rf) := hS6
    refine sq 7 rfl rfl (Y_assign (v := .bool false) rfl rfl) ?_
    refine rw_nil ?_
    refine cw_ret ?_
    have hS7 := hS6.addNil 91
    obtain ⟨rfl, rfl⟩ := pr2 (some_inj hF1)
    exact ret2 Try.results109 (v1 := .agg #[.int .i64 0, .int .i64 0, .slice none 0 0]) (resAt_cellA (B := some ⟨b, 0, none⟩) (i := 0) (cs := [.int .i64 0, .int .i64 0, .slice none 0 0]) (vs := [.int .i64 0, .int .i64 0, .slice none 0 0]) rfl k_ag_62 k_sz_62_3 (hS7.cf (i := 0) rfl) rfl rfl) (v2 := .bool false) (resAt_tmp rfl) ⟨none, 0, rfl, (ST.subR (R' := []) (hS7.sel [2] rfl rfl) (fun _ h => by cases h))⟩
  · skip
    have hF2 := cf' hF hb
    refine cw_skip ?_
    refine cw_seq ?_
    refine cw_seq ?_
    refine cw_region ?_
    refine sq 25 rfl rfl (Y_move (v := .int .i64 rows) rfl rfl) ?_
    refine sq 26 rfl rfl (Y_move (v := .int .i64 0) rfl rfl) ?_
    refine rw_nil ?_
    obtain ⟨hN, hF2⟩ := chk_inv hF2
    obtain ⟨z, hz, hF3⟩ := bind_inv hF2
    have hS9 := hS5.addNil 91
    refine cw_block ?_
    refine cw_loop (fun k f w => ∃ (i : Nat) (Cells : List TDyadic) (B1 : Option Addr) (c1 : Nat), FF f [(1, .int .i64 cols), (2, .func (.func kf) #[] caps), (6, pt (some ⟨b, 0, none⟩) 0), (8, pt (some ⟨b1, 0, none⟩) 0), (25, .int .i64 rows), (26, .int .i64 (i : Int))] ∧ ST w0 [] w [⟨some ⟨b, 0, none⟩, 62, [.int .i64 0, .int .i64 0, .slice none 0 0], 3⟩, ⟨some ⟨b1, 0, none⟩, 62, [.int .i64 rows, .int .i64 cols, .slice B1 Cells.length c1], 3⟩, ⟨B1, 91, (Cells.flatMap enc_Dyadic), c1 * 5⟩] (Rf) ∧ i + k = rows.toNat ∧ forX (F_impl_matrixOf_l1 cols cell) k i Cells = some z) rows.toNat ⟨0, [], none, 0, (FF.cons rfl (FF.cons rfl (FF.cons rfl (FF.cons rfl (FF.cons rfl (FF.cons rfl FF.nil)))))), (hS9.sel [0, 1, 2] rfl rfl), Nat.zero_add _, hz⟩ ?_
    rintro k_ f w ⟨i, Cells, B1, c1, hf, hS8, hik, hL⟩
    refine cw_seq ?_
    refine cw_region ?_
    refine sq 27 rfl rfl (Y_lt (k := .i64) (a := (i : Int)) (b := rows) rfl (hf.get 26 5 rfl) (hf.get 25 4 rfl)) ?_
    refine rw_nil ?_
    refine cw_seq ?_
    refine cw_cond (b := (decide ((i : Int) < rows))) rfl (fun hlt => ?_) (fun hlt => ?_)
    · skip
      have hlt1 : i < rows.toNat := by have h := of_decide_eq_true hlt; omega
      obtain ⟨k_1, rfl⟩ : ∃ k2, k_ = k2 + 1 := ⟨k_ - 1, by omega⟩
      obtain ⟨y3, hb1, hL1⟩ := forX_go hL
      unfold F_impl_matrixOf_l1 at hb1
      refine cw_skip ?_
      refine cw_seq ?_
      refine cw_block ?_
      refine cw_seq ?_
      refine cw_region ?_
      refine sq 28 rfl rfl (Y_move (v := .int .i64 (i : Int)) rfl (hf.get 26 5 rfl)) ?_
      refine sq 9 rfl rfl (Y_assign (v := .int .i64 (i : Int)) rfl rfl) ?_
      refine rw_nil ?_
      refine cw_seq ?_
      refine cw_region ?_
      refine sq 29 rfl rfl (Y_move (v := .int .i64 cols) rfl (hf.get 1 0 rfl)) ?_
      refine sq 30 rfl rfl (Y_move (v := .int .i64 0) rfl rfl) ?_
      refine rw_nil ?_
      obtain ⟨hN1, hb1⟩ := chk_inv hb1
      obtain ⟨z1, hz1, hF4⟩ := bind_inv hb1
      refine cw_block ?_
      refine cw_loop (fun k f w => ∃ (i1 : Nat) (Cells1 : List TDyadic) (B2 : Option Addr) (c2 : Nat), FF f [(1, .int .i64 cols), (2, .func (.func kf) #[] caps), (6, pt (some ⟨b, 0, none⟩) 0), (8, pt (some ⟨b1, 0, none⟩) 0), (9, .int .i64 (i : Int)), (25, .int .i64 rows), (26, .int .i64 (i : Int)), (29, .int .i64 cols), (30, .int .i64 (i1 : Int))] ∧ ST w0 [] w [⟨some ⟨b, 0, none⟩, 62, [.int .i64 0, .int .i64 0, .slice none 0 0], 3⟩, ⟨some ⟨b1, 0, none⟩, 62, [.int .i64 rows, .int .i64 cols, .slice B2 Cells1.length c2], 3⟩, ⟨B2, 91, (Cells1.flatMap enc_Dyadic), c2 * 5⟩] (Rf) ∧ i1 + k = cols.toNat ∧ forX (F_impl_matrixOf_l2 cell i) k i1 Cells1 = some z1) cols.toNat ⟨0, Cells, B1, c1, (FF.cons (hf.get 1 0 rfl) (FF.cons (hf.get 2 1 rfl) (FF.cons (hf.get 6 2 rfl) (FF.cons (hf.get 8 3 rfl) (FF.cons rfl (FF.cons (hf.get 25 4 rfl) (FF.cons (hf.get 26 5 rfl) (FF.cons rfl (FF.cons rfl FF.nil))))))))), (hS8.sel [0, 1, 2] rfl rfl), Nat.zero_add _, hz1⟩ ?_
      rintro k_2 f w ⟨i1, Cells1, B2, c2, hf1, hS10, hik1, hL2⟩
      refine cw_seq ?_
      refine cw_region ?_
      refine sq 31 rfl rfl (Y_lt (k := .i64) (a := (i1 : Int)) (b := cols) rfl (hf1.get 30 8 rfl) (hf1.get 29 7 rfl)) ?_
      refine rw_nil ?_
      refine cw_seq ?_
      refine cw_cond (b := (decide ((i1 : Int) < cols))) rfl (fun hlt2 => ?_) (fun hlt2 => ?_)
      · skip
        have hlt3 : i1 < cols.toNat := by have h := of_decide_eq_true hlt2; omega
        obtain ⟨k_3, rfl⟩ : ∃ k2, k_2 = k2 + 1 := ⟨k_2 - 1, by omega⟩
        obtain ⟨y4, hb2, hL3⟩ := forX_go hL2
        unfold F_impl_matrixOf_l2 at hb2
        refine cw_skip ?_
        refine cw_seq ?_
        refine cw_block ?_
        refine cw_seq ?_
        refine cw_region ?_
        refine sq 32 rfl rfl (Y_move (v := .int .i64 (i1 : Int)) rfl (hf1.get 30 8 rfl)) ?_
        refine sq 10 rfl rfl (Y_assign (v := .int .i64 (i1 : Int)) rfl rfl) ?_
        refine rw_nil ?_
        refine cw_seq ?_
        refine cw_region ?_
        refine sq 34 rfl rfl (Y_move (v := .func (.func kf) #[] caps) rfl (hf1.get 2 1 rfl)) ?_
        refine sq 35 rfl rfl (Y_move (v := .int .i64 (i : Int)) rfl (hf1.get 9 4 rfl)) ?_
        refine sq 36 rfl rfl (Y_move (v := .int .i64 (i1 : Int)) rfl rfl) ?_
        obtain ⟨⟨r_4, r_5⟩, hc2, hb2⟩ := bind_inv hb2
        refine sc 37 rfl rfl (Yc_clos (g := kf) (vs := (.int .i64 (i : Int)) :: (.int .i64 (i1 : Int)) :: caps.toList) hk rfl rfl (clo_args (mc rfl (mc rfl mn))) (hp _ (hS10.innS (fun _ h => List.mem_of_mem_drop (i := 0) h)) (i : Int) (i1 : Int) r_4 r_5 hc2)) ?_
        rintro _ w_6 ⟨rfl, hd1⟩
        have hS11 := hS10.out00 hd1
        have hS11 : ST w0 [] _ [⟨some ⟨b, 0, none⟩, 62, [.int .i64 0, .int .i64 0, .slice none 0 0], 3⟩, ⟨some ⟨b1, 0, none⟩, 62, [.int .i64 rows, .int .i64 cols, .slice B2 Cells1.length c2], 3⟩, ⟨B2, 91, (Cells1.flatMap enc_Dyadic), c2 * 5⟩] (Rf) := hS11
        refine sq 33 rfl rfl (Y_move (v := .tuple #[.agg #[.int .i64 r_4.Num.A, .int .i64 r_4.Num.B, .int .i64 r_4.Num.C, .int .i64 r_4.Num.D, .int .i64 r_4.Exp], .bool r_5]) rfl rfl) ?_
        refine sq 38 rfl rfl (Y_extract (v := .agg #[.int .i64 r_4.Num.A, .int .i64 r_4.Num.B, .int .i64 r_4.Num.C, .int .i64 r_4.Num.D, .int .i64 r_4.Exp]) rfl rfl rfl) ?_
        refine sq 39 rfl rfl (Y_extract (v := .bool r_5) rfl rfl rfl) ?_
        refine ss 11 rfl rfl (Ys_alloc (T := 91) (cs := [.int .i64 0, .int .i64 0, .int .i64 0, .int .i64 0, .int .i64 0]) (m := 5) hS11 k_zero_91 rfl rfl rfl) ?_
        rintro _ w_7 ⟨b2, rfl, hS12⟩
        have hS12 : ST w0 [] _ [⟨some ⟨b, 0, none⟩, 62, [.int .i64 0, .int .i64 0, .slice none 0 0], 3⟩, ⟨some ⟨b1, 0, none⟩, 62, [.int .i64 rows, .int .i64 cols, .slice B2 Cells1.length c2], 3⟩, ⟨B2, 91, (Cells1.flatMap enc_Dyadic), c2 * 5⟩, ⟨some ⟨b2, 0, none⟩, 91, [.int .i64 0, .int .i64 0, .int .i64 0, .int .i64 0, .int .i64 0], 5⟩] (Rf) := hS12
        refine ss0 rfl rfl (Ys_store (i := 3) (s := 5) (B := some ⟨b2, 0, none⟩) (T' := 91) (v := .agg #[.int .i64 r_4.Num.A, .int .i64 r_4.Num.B, .int .i64 r_4.Num.C, .int .i64 r_4.Num.D, .int .i64 r_4.Exp]) (vs := [.int .i64 r_4.Num.A, .int .i64 r_4.Num.B, .int .i64 r_4.Num.C, .int .i64 r_4.Num.D, .int .i64 r_4.Exp]) (k := 0) (cs' := [.int .i64 r_4.Num.A, .int .i64 r_4.Num.B, .int .i64 r_4.Num.C, .int .i64 r_4.Num.D, .int .i64 r_4.Exp]) hS12 k_sz_91_5 rfl rfl rfl rfl rfl rfl rfl (Nat.le_of_ble_eq_true rfl) rfl rfl) ?_
        rintro _ w_8 ⟨rfl, hS13⟩
        have hS13 : ST w0 [] _ [⟨some ⟨b, 0, none⟩, 62, [.int .i64 0, .int .i64 0, .slice none 0 0], 3⟩, ⟨some ⟨b1, 0, none⟩, 62, [.int .i64 rows, .int .i64 cols, .slice B2 Cells1.length c2], 3⟩, ⟨B2, 91, (Cells1.flatMap enc_Dyadic), c2 * 5⟩, ⟨some ⟨b2, 0, none⟩, 91, [.int .i64 r_4.Num.A, .int .i64 r_4.Num.B, .int .i64 r_4.Num.C, .int .i64 r_4.Num.D, .int .i64 r_4.Exp], 5⟩] (Rf) := hS13
        refine sq 12 rfl rfl (Y_assign (v := .bool r_5) rfl rfl) ?_
        refine rw_nil ?_
        refine cw_seq ?_
        refine cw_seq ?_
        refine cw_region ?_
        refine sq 40 rfl rfl (Y_move (v := .bool r_5) rfl rfl) ?_
        refine sq 41 rfl rfl (Y_not (p := r_5) rfl rfl) ?_
        refine rw_nil ?_
        refine cw_cond (b := (!r_5)) rfl (fun hb3 => ?_) (fun hb3 => ?_)
        · skip
          have hF5 := ct hb2 hb3
          refine cw_seq ?_
          refine cw_region ?_
          refine sq 42 rfl rfl (Y_buildS (zs := [.int .i64 0, .int .i64 0, .slice none 0 0]) (vs := []) (cs := [.int .i64 0, .int .i64 0, .slice none 0 0]) k_pl_62 k_zero_62 rfl mpn rfl) ?_
          refine ss0 rfl rfl (Ys_store (i := 0) (s := 3) (B := some ⟨b, 0, none⟩) (T' := 62) (v := .agg #[.int .i64 0, .int .i64 0, .slice none 0 0]) (vs := [.int .i64 0, .int .i64 0, .slice none 0 0]) (k := 0) (cs' := [.int .i64 0, .int .i64 0, .slice none 0 0]) hS13 k_sz_62_3 rfl (hf1.get 6 2 rfl) rfl rfl rfl rfl rfl (Nat.le_of_ble_eq_true rfl) rfl rfl) ?_
          rintro _ w_9 ⟨rfl, hS14⟩
          have hS14 : ST w0 [] _ [⟨some ⟨b, 0, none⟩, 62, [.int .i64 0, .int .i64 0, .slice none 0 0], 3⟩, ⟨some ⟨b1, 0, none⟩, 62, [.int .i64 rows, .int .i64 cols, .slice B2 Cells1.length c2], 3⟩, ⟨B2, 91, (Cells1.flatMap enc_Dyadic), c2 * 5⟩, ⟨some ⟨b2, 0, none⟩, 91, [.int .i64 r_4.Num.A, .int .i64 r_4.Num.B, .int .i64 r_4.Num.C, .int .i64 r_4.Num.D, .int .i64 r_4.Exp], 5⟩] (Rf) := hS14
          refine sq 7 rfl rfl (Y_assign (v := .bool false) rfl rfl) ?_
          refine rw_nil ?_
          refine cw_ret ?_
          have hS15 := hS14.addNil 91
          obtain rfl := some_inj hF5
          obtain rfl := some_inj hL3
          obtain rfl := some_inj hF4
          obtain rfl := some_inj hL1
          obtain ⟨rfl, rfl⟩ := pr2 (some_inj hF3)
          exact ret2 Try.results109 (v1 := .agg #[.int .i64 0, .int .i64 0, .slice none 0 0]) (resAt_cellA (B := some ⟨b, 0, none⟩) (i := 0) (cs := [.int .i64 0, .int .i64 0, .slice none 0 0]) (vs := [.int .i64 0, .int .i64 0, .slice none 0 0]) (hf1.get 6 2 rfl) k_ag_62 k_sz_62_3 (hS15.cf (i := 0) rfl) rfl rfl) (v2 := .bool false) (resAt_tmp rfl) ⟨none, 0, rfl, (ST.subR (R' := []) (hS15.sel [4] rfl rfl) (fun _ h => by cases h))⟩
        · skip
          have hF6 := cf' hb2 hb3
          refine cw_skip ?_
          refine cw_region ?_
          refine sq 43 rfl rfl (Y_fieldAddr (B := some ⟨b1, 0, none⟩) (i := 0) (s := 0) k_fd_62_2_2_27 k_sz_27_1 rfl (hf1.get 8 3 rfl)) ?_
          refine sq 44 rfl rfl (Y_load1 (B := some ⟨b1, 0, none⟩) (i := 2) (cs := [.int .i64 rows, .int .i64 cols, .slice B2 Cells1.length c2]) (v := .slice B2 Cells1.length c2) k_sc_27 rfl rfl (hS13.cf (i := 1) rfl) rfl) ?_
          refine sq 45 rfl rfl (Y_loadA (B := some ⟨b2, 0, none⟩) (i := 0) (cs := [.int .i64 r_4.Num.A, .int .i64 r_4.Num.B, .int .i64 r_4.Num.C, .int .i64 r_4.Num.D, .int .i64 r_4.Exp]) (vs := [.int .i64 r_4.Num.A, .int .i64 r_4.Num.B, .int .i64 r_4.Num.C, .int .i64 r_4.Num.D, .int .i64 r_4.Exp]) k_ag_91 k_sz_91_5 rfl rfl (hS13.cf (i := 3) rfl) rfl rfl) ?_
          refine ss 46 rfl rfl (Ys_bslice (s := 5) (len := 1) (vs := [(0, .agg #[.int .i64 r_4.Num.A, .int .i64 r_4.Num.B, .int .i64 r_4.Num.C, .int .i64 r_4.Num.D, .int .i64 r_4.Exp])]) (cs := [.int .i64 r_4.Num.A, .int .i64 r_4.Num.B, .int .i64 r_4.Num.C, .int .i64 r_4.Num.D, .int .i64 r_4.Exp]) (zs := [.int .i64 0, .int .i64 0, .int .i64 0, .int .i64 0, .int .i64 0]) (m := 5) hS13 k_sl_27_91 k_sz_91_5 k_zc_91 rfl (mpc rfl mpn) rfl rfl rfl rfl rfl rfl) ?_
          rintro _ w_10 ⟨b3, rfl, hS16⟩
          have hS16 : ST w0 [] _ [⟨some ⟨b, 0, none⟩, 62, [.int .i64 0, .int .i64 0, .slice none 0 0], 3⟩, ⟨some ⟨b1, 0, none⟩, 62, [.int .i64 rows, .int .i64 cols, .slice B2 Cells1.length c2], 3⟩, ⟨B2, 91, (Cells1.flatMap enc_Dyadic), c2 * 5⟩, ⟨some ⟨b2, 0, none⟩, 91, [.int .i64 r_4.Num.A, .int .i64 r_4.Num.B, .int .i64 r_4.Num.C, .int .i64 r_4.Num.D, .int .i64 r_4.Exp], 5⟩, ⟨some ⟨b3, 0, none⟩, 91, ([r_4].flatMap enc_Dyadic), 1 * 5⟩] (Rf) := hS16
          obtain ⟨hap, hF6⟩ := chk_inv hF6
          refine ss 47 rfl rfl (Ys_append (s := 5) (by' := 40) (i := 2) (nn := Cells1.length) (c := c2) (k := 1) (len := (Cells1 ++ [r_4]).length) (B := B2) (xs := ([r_4].flatMap enc_Dyadic)) (cs' := ((Cells1 ++ [r_4]).flatMap enc_Dyadic)) hS16 k_sl_27_91 k_sz_91_5 k_by_91_40 k_zero_91 rfl (by decide) rfl rfl rfl rfl (fm_lenn (l := Cells1) enc_Dyadic_len rfl) rfl (hS16.cf (i := 4) rfl) (fm_lenn (l := [r_4]) enc_Dyadic_len rfl) (fm_one' (enc := enc_Dyadic) enc_Dyadic_one [r_4]) (by have := hap; omega) (by have := hap; simp only [maxLen]; omega) (fm_app _ _) (app_len (l := Cells1) (l' := [r_4]) rfl rfl)) ?_
          rintro _ w_11 ⟨B3, c3, rfl, hS17⟩
          have hS17 : ST w0 [] _ [⟨some ⟨b, 0, none⟩, 62, [.int .i64 0, .int .i64 0, .slice none 0 0], 3⟩, ⟨some ⟨b1, 0, none⟩, 62, [.int .i64 rows, .int .i64 cols, .slice B2 Cells1.length c2], 3⟩, ⟨B3, 91, ((Cells1 ++ [r_4]).flatMap enc_Dyadic), c3 * 5⟩, ⟨some ⟨b2, 0, none⟩, 91, [.int .i64 r_4.Num.A, .int .i64 r_4.Num.B, .int .i64 r_4.Num.C, .int .i64 r_4.Num.D, .int .i64 r_4.Exp], 5⟩, ⟨some ⟨b3, 0, none⟩, 91, ([r_4].flatMap enc_Dyadic), 1 * 5⟩] (Rf) := hS17
          refine sq 48 rfl rfl (Y_fieldAddr (B := some ⟨b1, 0, none⟩) (i := 0) (s := 0) k_fd_62_2_2_27 k_sz_27_1 rfl (hf1.get 8 3 rfl)) ?_
          refine ss0 rfl rfl (Ys_store (i := 1) (s := 1) (B := some ⟨b1, 0, none⟩) (T' := 62) (v := .slice B3 ((Cells1 ++ [r_4]).length) c3) (vs := [.slice B3 ((Cells1 ++ [r_4]).length) c3]) (k := 2) (cs' := [.int .i64 rows, .int .i64 cols, .slice B3 ((Cells1 ++ [r_4]).length) c3]) hS17 k_sz_27_1 rfl rfl rfl rfl rfl rfl rfl (Nat.le_of_ble_eq_true rfl) rfl rfl) ?_
          rintro _ w_12 ⟨rfl, hS18⟩
          have hS18 : ST w0 [] _ [⟨some ⟨b, 0, none⟩, 62, [.int .i64 0, .int .i64 0, .slice none 0 0], 3⟩, ⟨some ⟨b1, 0, none⟩, 62, [.int .i64 rows, .int .i64 cols, .slice B3 ((Cells1 ++ [r_4]).length) c3], 3⟩, ⟨B3, 91, ((Cells1 ++ [r_4]).flatMap enc_Dyadic), c3 * 5⟩, ⟨some ⟨b2, 0, none⟩, 91, [.int .i64 r_4.Num.A, .int .i64 r_4.Num.B, .int .i64 r_4.Num.C, .int .i64 r_4.Num.D, .int .i64 r_4.Exp], 5⟩, ⟨some ⟨b3, 0, none⟩, 91, ([r_4].flatMap enc_Dyadic), 1 * 5⟩] (Rf) := hS18
          refine rw_nil ?_
          refine cw_region ?_
          refine sq 49 rfl rfl (Y_add (k := .i64) (a := (i1 : Int)) (b := 1) rfl (hf1.get 30 8 rfl) rfl) ?_
          refine sq 30 rfl rfl (Y_move (v := .int .i64 (IntKind.i64.wrap ((i1 : Int) + 1))) rfl rfl) ?_
          refine rw_nil ?_
          obtain rfl := some_inj hF6
          exact ⟨k_3, Nat.lt_succ_self _, i1 + 1, (Cells1 ++ [r_4]), B3, c3, (FF.cons (hf1.get 1 0 rfl) (FF.cons (hf1.get 2 1 rfl) (FF.cons (hf1.get 6 2 rfl) (FF.cons (hf1.get 8 3 rfl) (FF.cons (hf1.get 9 4 rfl) (FF.cons (hf1.get 25 5 rfl) (FF.cons (hf1.get 26 6 rfl) (FF.cons (hf1.get 29 7 rfl) (FF.cons (congrArg (Value.int .i64) (wr_succ hlt3 hN1)) FF.nil))))))))), (hS18.sel [0, 1, 2] rfl rfl), (by omega), hL3⟩
      · skip
        obtain rfl : k_2 = 0 := by have h := of_decide_eq_false hlt2; omega
        refine cw_exit rfl ?_
        obtain rfl := some_inj hL2
        refine cw_region ?_
        refine sq 50 rfl rfl (Y_add (k := .i64) (a := (i : Int)) (b := 1) rfl (hf1.get 26 6 rfl) rfl) ?_
        refine sq 26 rfl rfl (Y_move (v := .int .i64 (IntKind.i64.wrap ((i : Int) + 1))) rfl rfl) ?_
        refine rw_nil ?_
        obtain rfl := some_inj hF4
        exact ⟨k_1, Nat.lt_succ_self _, i + 1, Cells1, B2, c2, (FF.cons (hf1.get 1 0 rfl) (FF.cons (hf1.get 2 1 rfl) (FF.cons (hf1.get 6 2 rfl) (FF.cons (hf1.get 8 3 rfl) (FF.cons (hf1.get 25 5 rfl) (FF.cons (congrArg (Value.int .i64) (wr_succ hlt1 hN)) FF.nil)))))), (hS10.sel [0, 1, 2] rfl rfl), (by omega), hL1⟩
    · skip
      obtain rfl : k_ = 0 := by have h := of_decide_eq_false hlt; omega
      refine cw_exit rfl ?_
      obtain rfl := some_inj hL
      refine cw_seq ?_
      refine cw_region ?_
      refine sq 51 rfl rfl (Y_loadA (B := some ⟨b1, 0, none⟩) (i := 0) (cs := [.int .i64 rows, .int .i64 cols, .slice B1 Cells.length c1]) (vs := [.int .i64 rows, .int .i64 cols, .slice B1 Cells.length c1]) k_ag_62 k_sz_62_3 rfl (hf.get 8 3 rfl) (hS8.cf (i := 1) rfl) rfl rfl) ?_
      refine ss0 rfl rfl (Ys_store (i := 0) (s := 3) (B := some ⟨b, 0, none⟩) (T' := 62) (v := .agg #[.int .i64 rows, .int .i64 cols, .slice B1 Cells.length c1]) (vs := [.int .i64 rows, .int .i64 cols, .slice B1 Cells.length c1]) (k := 0) (cs' := [.int .i64 rows, .int .i64 cols, .slice B1 Cells.length c1]) hS8 k_sz_62_3 rfl (hf.get 6 2 rfl) rfl rfl rfl rfl rfl (Nat.le_of_ble_eq_true rfl) rfl rfl) ?_
      rintro _ w_13 ⟨rfl, hS19⟩
      have hS19 : ST w0 [] _ [⟨some ⟨b, 0, none⟩, 62, [.int .i64 rows, .int .i64 cols, .slice B1 Cells.length c1], 3⟩, ⟨some ⟨b1, 0, none⟩, 62, [.int .i64 rows, .int .i64 cols, .slice B1 Cells.length c1], 3⟩, ⟨B1, 91, (Cells.flatMap enc_Dyadic), c1 * 5⟩] (Rf) := hS19
      refine sq 7 rfl rfl (Y_assign (v := .bool true) rfl rfl) ?_
      refine rw_nil ?_
      refine cw_ret ?_
      obtain ⟨rfl, rfl⟩ := pr2 (some_inj hF3)
      exact ret2 Try.results109 (v1 := .agg #[.int .i64 rows, .int .i64 cols, .slice B1 Cells.length c1]) (resAt_cellA (B := some ⟨b, 0, none⟩) (i := 0) (cs := [.int .i64 rows, .int .i64 cols, .slice B1 Cells.length c1]) (vs := [.int .i64 rows, .int .i64 cols, .slice B1 Cells.length c1]) (hf.get 6 2 rfl) k_ag_62 k_sz_62_3 (hS19.cf (i := 0) rfl) rfl rfl) (v2 := .bool true) (resAt_tmp rfl) ⟨B1, c1, rfl, (ST.subR (R' := []) (hS19.sel [2] rfl rfl) (fun _ h => by cases h))⟩

theorem c_impl_ringIf (out : TRing) (args : List TRing) (B : Option Addr) (c n : Nat) (w0 : World) (hn : args.length = n) (hS : ST w0 (bl [⟨B, 89, (args.flatMap enc_Ring), c * 4⟩]) w0 [⟨B, 89, (args.flatMap enc_Ring), c * 4⟩] []) {r_ : TRing} {r_1 : Bool} (hF : F_impl_ringIf out args = some (r_, r_1)) :
    CV Try.prog 202 #[.agg #[.int .i64 out.A, .int .i64 out.B, .int .i64 out.C, .int .i64 out.D], .slice B n c] w0 (fun v w' => v = .tuple #[.agg #[.int .i64 r_.A, .int .i64 r_.B, .int .i64 r_.C, .int .i64 r_.D], .bool r_1] ∧ ST w0 (bl [⟨B, 89, (args.flatMap enc_Ring), c * 4⟩]) w' [] []) := by
  subst hn
  unfold F_impl_ringIf at hF
  refine cv_of_cw 23 Try.func202 rfl Try.ntmps202 rfl ?_
  refine cw_seq ?_
  refine cw_region ?_
  refine ss 2 rfl rfl (Ys_box (T := 89) (v := .agg #[.int .i64 out.A, .int .i64 out.B, .int .i64 out.C, .int .i64 out.D]) (cs := [.int .i64 out.A, .int .i64 out.B, .int .i64 out.C, .int .i64 out.D]) (m := 4) hS rfl rfl rfl rfl) ?_
  rintro _ w_ ⟨b, rfl, hS1⟩
  have hS1 : ST w0 (bl [⟨B, 89, (args.flatMap enc_Ring), c * 4⟩]) _ [⟨B, 89, (args.flatMap enc_Ring), c * 4⟩, ⟨some ⟨b, 0, none⟩, 89, [.int .i64 out.A, .int .i64 out.B, .int .i64 out.C, .int .i64 out.D], 4⟩] [] := hS1
  refine ss 4 rfl rfl (Ys_alloc (T := 89) (cs := [.int .i64 0, .int .i64 0, .int .i64 0, .int .i64 0]) (m := 4) hS1 k_zero_89 rfl rfl rfl) ?_
  rintro _ w_1 ⟨b1, rfl, hS2⟩
  have hS2 : ST w0 (bl [⟨B, 89, (args.flatMap enc_Ring), c * 4⟩]) _ [⟨B, 89, (args.flatMap enc_Ring), c * 4⟩, ⟨some ⟨b, 0, none⟩, 89, [.int .i64 out.A, .int .i64 out.B, .int .i64 out.C, .int .i64 out.D], 4⟩, ⟨some ⟨b1, 0, none⟩, 89, [.int .i64 0, .int .i64 0, .int .i64 0, .int .i64 0], 4⟩] [] := hS2
  refine sq 5 rfl rfl (Y_assign (v := .bool false) rfl rfl) ?_
  refine rw_nil ?_
  refine cw_seq ?_
  refine cw_seq ?_
  refine cw_region ?_
  refine sq 8 rfl rfl (Y_move (v := .slice B args.length c) rfl rfl) ?_
  refine sq 9 rfl rfl (Y_loadA (B := some ⟨b, 0, none⟩) (i := 0) (cs := [.int .i64 out.A, .int .i64 out.B, .int .i64 out.C, .int .i64 out.D]) (vs := [.int .i64 out.A, .int .i64 out.B, .int .i64 out.C, .int .i64 out.D]) k_ag_89 k_sz_89_4 rfl rfl (hS2.cf (i := 1) rfl) rfl rfl) ?_
  refine ss 10 rfl rfl (Ys_bslice (s := 4) (len := 1) (vs := [(0, .agg #[.int .i64 out.A, .int .i64 out.B, .int .i64 out.C, .int .i64 out.D])]) (cs := [.int .i64 out.A, .int .i64 out.B, .int .i64 out.C, .int .i64 out.D]) (zs := [.int .i64 0, .int .i64 0, .int .i64 0, .int .i64 0]) (m := 4) hS2 k_sl_214_89 k_sz_89_4 k_zc_89 rfl (mpc rfl mpn) rfl rfl rfl rfl rfl rfl) ?_
  rintro _ w_2 ⟨b2, rfl, hS3⟩
  have hS3 : ST w0 (bl [⟨B, 89, (args.flatMap enc_Ring), c * 4⟩]) _ [⟨B, 89, (args.flatMap enc_Ring), c * 4⟩, ⟨some ⟨b, 0, none⟩, 89, [.int .i64 out.A, .int .i64 out.B, .int .i64 out.C, .int .i64 out.D], 4⟩, ⟨some ⟨b1, 0, none⟩, 89, [.int .i64 0, .int .i64 0, .int .i64 0, .int .i64 0], 4⟩, ⟨some ⟨b2, 0, none⟩, 89, ([out].flatMap enc_Ring), 1 * 4⟩] [] := hS3
  obtain ⟨hap, hF⟩ := chk_inv hF
  refine ss 11 rfl rfl (Ys_append (s := 4) (by' := 32) (i := 0) (nn := args.length) (c := c) (k := 1) (len := (args ++ [out]).length) (B := B) (xs := ([out].flatMap enc_Ring)) (cs' := ((args ++ [out]).flatMap enc_Ring)) hS3 k_sl_214_89 k_sz_89_4 k_by_89_32 k_zero_89 rfl (by decide) rfl rfl rfl rfl (fm_lenn (l := args) enc_Ring_len rfl) rfl (hS3.cf (i := 3) rfl) (fm_lenn (l := [out]) enc_Ring_len rfl) (fm_one' (enc := enc_Ring) enc_Ring_one [out]) (by have := hap; omega) (by have := hap; simp only [maxLen]; omega) (fm_app _ _) (app_len (l := args) (l' := [out]) rfl rfl)) ?_
  rintro _ w_3 ⟨B1, c1, rfl, hS4⟩
  have hS4 : ST w0 (bl [⟨B, 89, (args.flatMap enc_Ring), c * 4⟩]) _ [⟨B1, 89, ((args ++ [out]).flatMap enc_Ring), c1 * 4⟩, ⟨some ⟨b, 0, none⟩, 89, [.int .i64 out.A, .int .i64 out.B, .int .i64 out.C, .int .i64 out.D], 4⟩, ⟨some ⟨b1, 0, none⟩, 89, [.int .i64 0, .int .i64 0, .int .i64 0, .int .i64 0], 4⟩, ⟨some ⟨b2, 0, none⟩, 89, ([out].flatMap enc_Ring), 1 * 4⟩] [] := hS4
  refine sq 12 rfl rfl (Y_len (B := B1) (m := (args ++ [out]).length) (c := c1) k_sl_214_89 rfl rfl) ?_
  refine sq 13 rfl rfl (Y_move (v := .int .i64 0) rfl rfl) ?_
  refine rw_nil ?_
  obtain ⟨hN, hF⟩ := chk_inv hF
  obtain ⟨z, hz, hF1⟩ := bind_inv hF
  refine cw_block ?_
  refine cw_loop (fun k f w => ∃ (i : Nat), FF f [(2, pt (some ⟨b, 0, none⟩) 0), (4, pt (some ⟨b1, 0, none⟩) 0), (11, .slice B1 ((args ++ [out]).length) c1), (12, .int .i64 ((args ++ [out]).length : Int)), (13, .int .i64 (i : Int))] ∧ ST w0 (bl [⟨B, 89, (args.flatMap enc_Ring), c * 4⟩]) w [⟨some ⟨b, 0, none⟩, 89, [.int .i64 out.A, .int .i64 out.B, .int .i64 out.C, .int .i64 out.D], 4⟩, ⟨some ⟨b1, 0, none⟩, 89, [.int .i64 0, .int .i64 0, .int .i64 0, .int .i64 0], 4⟩, ⟨B1, 89, ((args ++ [out]).flatMap enc_Ring), c1 * 4⟩] [] ∧ i + k = (args ++ [out]).length ∧ forX (F_impl_ringIf_l1 args out) k i () = some z) ((args ++ [out]).length) ⟨0, (FF.cons rfl (FF.cons rfl (FF.cons rfl (FF.cons rfl (FF.cons rfl FF.nil))))), (hS4.sel [1, 2, 0] rfl rfl), Nat.zero_add _, hz⟩ ?_
  rintro k_ f w ⟨i, hf, hS5, hik, hL⟩
  refine cw_seq ?_
  refine cw_region ?_
  refine sq 14 rfl rfl (Y_lt (k := .i64) (a := (i : Int)) (b := ((args ++ [out]).length : Int)) rfl (hf.get 13 4 rfl) (hf.get 12 3 rfl)) ?_
  refine rw_nil ?_
  refine cw_seq ?_
  refine cw_cond (b := (decide ((i : Int) < ((args ++ [out]).length : Int)))) rfl (fun hlt => ?_) (fun hlt => ?_)
  · skip
    have hlt1 : i < (args ++ [out]).length := by have h := of_decide_eq_true hlt; omega
    obtain ⟨k_1, rfl⟩ : ∃ k2, k_ = k2 + 1 := ⟨k_ - 1, by omega⟩
    obtain ⟨y, hb, hL1⟩ := forX_go hL
    unfold F_impl_ringIf_l1 at hb
    refine cw_skip ?_
    refine cw_seq ?_
    refine cw_block ?_
    refine cw_seq ?_
    refine cw_region ?_
    obtain ⟨x, hx, hb⟩ := bind_inv hb
    refine sq 15 rfl rfl (Y_index (B := B1) (m := (args ++ [out]).length) (c := c1) (k := .i64) (i := (i : Int)) k_sl_214_89 k_sz_89_4 rfl (hf.get 11 2 rfl) (hf.get 13 4 rfl) (gi_isSome enc_Ring_len rfl (hS5.cf (i := 2) rfl) hx) (getI_nn hx) (getI_ltI hx rfl)) ?_
    refine sq 16 rfl rfl (Y_loadA (B := B1) (i := (i : Int).toNat * 4) (cs := ((args ++ [out]).flatMap enc_Ring)) (vs := [.int .i64 x.A, .int .i64 x.B, .int .i64 x.C, .int .i64 x.D]) k_ag_89 k_sz_89_4 rfl rfl (hS5.cf (i := 2) rfl) (enc_Ring_len x) (gi_seg enc_Ring_len hx)) ?_
    refine ss 7 rfl rfl (Ys_alloc (T := 89) (cs := [.int .i64 0, .int .i64 0, .int .i64 0, .int .i64 0]) (m := 4) hS5 k_zero_89 rfl rfl rfl) ?_
    rintro _ w_4 ⟨b3, rfl, hS6⟩
    have hS6 : ST w0 (bl [⟨B, 89, (args.flatMap enc_Ring), c * 4⟩]) _ [⟨some ⟨b, 0, none⟩, 89, [.int .i64 out.A, .int .i64 out.B, .int .i64 out.C, .int .i64 out.D], 4⟩, ⟨some ⟨b1, 0, none⟩, 89, [.int .i64 0, .int .i64 0, .int .i64 0, .int .i64 0], 4⟩, ⟨B1, 89, ((args ++ [out]).flatMap enc_Ring), c1 * 4⟩, ⟨some ⟨b3, 0, none⟩, 89, [.int .i64 0, .int .i64 0, .int .i64 0, .int .i64 0], 4⟩] [] := hS6
    refine ss0 rfl rfl (Ys_store (i := 3) (s := 4) (B := some ⟨b3, 0, none⟩) (T' := 89) (v := .agg #[.int .i64 x.A, .int .i64 x.B, .int .i64 x.C, .int .i64 x.D]) (vs := [.int .i64 x.A, .int .i64 x.B, .int .i64 x.C, .int .i64 x.D]) (k := 0) (cs' := [.int .i64 x.A, .int .i64 x.B, .int .i64 x.C, .int .i64 x.D]) hS6 k_sz_89_4 rfl rfl rfl rfl rfl rfl rfl (Nat.le_of_ble_eq_true rfl) rfl rfl) ?_
    rintro _ w_5 ⟨rfl, hS7⟩
    have hS7 : ST w0 (bl [⟨B, 89, (args.flatMap enc_Ring), c * 4⟩]) _ [⟨some ⟨b, 0, none⟩, 89, [.int .i64 out.A, .int .i64 out.B, .int .i64 out.C, .int .i64 out.D], 4⟩, ⟨some ⟨b1, 0, none⟩, 89, [.int .i64 0, .int .i64 0, .int .i64 0, .int .i64 0], 4⟩, ⟨B1, 89, ((args ++ [out]).flatMap enc_Ring), c1 * 4⟩, ⟨some ⟨b3, 0, none⟩, 89, [.int .i64 x.A, .int .i64 x.B, .int .i64 x.C, .int .i64 x.D], 4⟩] [] := hS7
    refine rw_nil ?_
    refine cw_seq ?_
    refine cw_region ?_
    refine sq 17 rfl rfl (Y_loadA (B := some ⟨b3, 0, none⟩) (i := 0) (cs := [.int .i64 x.A, .int .i64 x.B, .int .i64 x.C, .int .i64 x.D]) (vs := [.int .i64 x.A, .int .i64 x.B, .int .i64 x.C, .int .i64 x.D]) k_ag_89 k_sz_89_4 rfl rfl (hS7.cf (i := 3) rfl) rfl rfl) ?_
    obtain ⟨r_2, hc, hb⟩ := bind_inv hb
    refine sc 18 rfl rfl (Yc_func (g := 185) (vs := [.agg #[.int .i64 x.A, .int .i64 x.B, .int .i64 x.C, .int .i64 x.D]]) k_call_185 rfl (mc rfl mn) (c_impl_IsValidRing x _  (hS7.inn0 [] rfl) hc)) ?_
    rintro _ w_6 ⟨rfl, hd⟩
    have hS8 := hS7.out00 hd
    have hS8 : ST w0 (bl [⟨B, 89, (args.flatMap enc_Ring), c * 4⟩]) _ [⟨some ⟨b, 0, none⟩, 89, [.int .i64 out.A, .int .i64 out.B, .int .i64 out.C, .int .i64 out.D], 4⟩, ⟨some ⟨b1, 0, none⟩, 89, [.int .i64 0, .int .i64 0, .int .i64 0, .int .i64 0], 4⟩, ⟨B1, 89, ((args ++ [out]).flatMap enc_Ring), c1 * 4⟩, ⟨some ⟨b3, 0, none⟩, 89, [.int .i64 x.A, .int .i64 x.B, .int .i64 x.C, .int .i64 x.D], 4⟩] [] := hS8
    refine sq 19 rfl rfl (Y_not (p := r_2) rfl rfl) ?_
    refine rw_nil ?_
    refine cw_cond (b := (!r_2)) rfl (fun hb1 => ?_) (fun hb1 => ?_)
    · skip
      have hF2 := ct hb hb1
      refine cw_seq ?_
      refine cw_region ?_
      refine sq 20 rfl rfl (Y_buildS (zs := [.int .i64 0, .int .i64 0, .int .i64 0, .int .i64 0]) (vs := []) (cs := [.int .i64 0, .int .i64 0, .int .i64 0, .int .i64 0]) k_pl_89 k_zero_89 rfl mpn rfl) ?_
      refine ss0 rfl rfl (Ys_store (i := 1) (s := 4) (B := some ⟨b1, 0, none⟩) (T' := 89) (v := .agg #[.int .i64 0, .int .i64 0, .int .i64 0, .int .i64 0]) (vs := [.int .i64 0, .int .i64 0, .int .i64 0, .int .i64 0]) (k := 0) (cs' := [.int .i64 0, .int .i64 0, .int .i64 0, .int .i64 0]) hS8 k_sz_89_4 rfl (hf.get 4 1 rfl) rfl rfl rfl rfl rfl (Nat.le_of_ble_eq_true rfl) rfl rfl) ?_
      rintro _ w_7 ⟨rfl, hS9⟩
      have hS9 : ST w0 (bl [⟨B, 89, (args.flatMap enc_Ring), c * 4⟩]) _ [⟨some ⟨b, 0, none⟩, 89, [.int .i64 out.A, .int .i64 out.B, .int .i64 out.C, .int .i64 out.D], 4⟩, ⟨some ⟨b1, 0, none⟩, 89, [.int .i64 0, .int .i64 0, .int .i64 0, .int .i64 0], 4⟩, ⟨B1, 89, ((args ++ [out]).flatMap enc_Ring), c1 * 4⟩, ⟨some ⟨b3, 0, none⟩, 89, [.int .i64 x.A, .int .i64 x.B, .int .i64 x.C, .int .i64 x.D], 4⟩] [] := hS9
      refine sq 5 rfl rfl (Y_assign (v := .bool false) rfl rfl) ?_
      refine rw_nil ?_
      refine cw_ret ?_
      obtain rfl := some_inj hF2
      obtain rfl := some_inj hL1
      obtain ⟨rfl, rfl⟩ := pr2 (some_inj hF1)
      exact ret2 Try.results202 (v1 := .agg #[.int .i64 0, .int .i64 0, .int .i64 0, .int .i64 0]) (resAt_cellA (B := some ⟨b1, 0, none⟩) (i := 0) (cs := [.int .i64 0, .int .i64 0, .int .i64 0, .int .i64 0]) (vs := [.int .i64 0, .int .i64 0, .int .i64 0, .int .i64 0]) (hf.get 4 1 rfl) k_ag_89 k_sz_89_4 (hS9.cf (i := 1) rfl) rfl rfl) (v2 := .bool false) (resAt_tmp rfl) ⟨rfl, (ST.subR (R' := []) (hS9.sel [] rfl rfl) (fun _ h => by cases h))⟩
    · skip
      have hF3 := cf' hb hb1
      refine cw_skip ?_
      refine cw_region ?_
      refine sq 21 rfl rfl (Y_add (k := .i64) (a := (i : Int)) (b := 1) rfl (hf.get 13 4 rfl) rfl) ?_
      refine sq 13 rfl rfl (Y_move (v := .int .i64 (IntKind.i64.wrap ((i : Int) + 1))) rfl rfl) ?_
      refine rw_nil ?_
      obtain rfl := some_inj hF3
      exact ⟨k_1, Nat.lt_succ_self _, i + 1, (FF.cons (hf.get 2 0 rfl) (FF.cons (hf.get 4 1 rfl) (FF.cons (hf.get 11 2 rfl) (FF.cons (hf.get 12 3 rfl) (FF.cons (congrArg (Value.int .i64) (wr_succ hlt1 hN)) FF.nil))))), (hS8.sel [0, 1, 2] rfl rfl), (by omega), hL1⟩
  · skip
    obtain rfl : k_ = 0 := by have h := of_decide_eq_false hlt; omega
    refine cw_exit rfl ?_
    obtain rfl := some_inj hL
    refine cw_seq ?_
    refine cw_region ?_
    refine sq 22 rfl rfl (Y_loadA (B := some ⟨b, 0, none⟩) (i := 0) (cs := [.int .i64 out.A, .int .i64 out.B, .int .i64 out.C, .int .i64 out.D]) (vs := [.int .i64 out.A, .int .i64 out.B, .int .i64 out.C, .int .i64 out.D]) k_ag_89 k_sz_89_4 rfl (hf.get 2 0 rfl) (hS5.cf (i := 0) rfl) rfl rfl) ?_
    refine ss0 rfl rfl (Ys_store (i := 1) (s := 4) (B := some ⟨b1, 0, none⟩) (T' := 89) (v := .agg #[.int .i64 out.A, .int .i64 out.B, .int .i64 out.C, .int .i64 out.D]) (vs := [.int .i64 out.A, .int .i64 out.B, .int .i64 out.C, .int .i64 out.D]) (k := 0) (cs' := [.int .i64 out.A, .int .i64 out.B, .int .i64 out.C, .int .i64 out.D]) hS5 k_sz_89_4 rfl (hf.get 4 1 rfl) rfl rfl rfl rfl rfl (Nat.le_of_ble_eq_true rfl) rfl rfl) ?_
    rintro _ w_8 ⟨rfl, hS10⟩
    have hS10 : ST w0 (bl [⟨B, 89, (args.flatMap enc_Ring), c * 4⟩]) _ [⟨some ⟨b, 0, none⟩, 89, [.int .i64 out.A, .int .i64 out.B, .int .i64 out.C, .int .i64 out.D], 4⟩, ⟨some ⟨b1, 0, none⟩, 89, [.int .i64 out.A, .int .i64 out.B, .int .i64 out.C, .int .i64 out.D], 4⟩, ⟨B1, 89, ((args ++ [out]).flatMap enc_Ring), c1 * 4⟩] [] := hS10
    refine sq 5 rfl rfl (Y_assign (v := .bool true) rfl rfl) ?_
    refine rw_nil ?_
    refine cw_ret ?_
    obtain ⟨rfl, rfl⟩ := pr2 (some_inj hF1)
    exact ret2 Try.results202 (v1 := .agg #[.int .i64 out.A, .int .i64 out.B, .int .i64 out.C, .int .i64 out.D]) (resAt_cellA (B := some ⟨b1, 0, none⟩) (i := 0) (cs := [.int .i64 out.A, .int .i64 out.B, .int .i64 out.C, .int .i64 out.D]) (vs := [.int .i64 out.A, .int .i64 out.B, .int .i64 out.C, .int .i64 out.D]) (hf.get 4 1 rfl) k_ag_89 k_sz_89_4 (hS10.cf (i := 1) rfl) rfl rfl) (v2 := .bool true) (resAt_tmp rfl) ⟨rfl, (ST.subR (R' := []) (hS10.sel [] rfl rfl) (fun _ h => by cases h))⟩
end Go.VK
