/- Walks: each Go function returns what its Lean function says. By program. -/
import Derived.Test.YtbhancgonaleoaaDoorLeastTCountFa
import Derived.Test.YtbhancgonaleoaaDoorLeastTCountW1
set_option linter.unusedVariables false
set_option maxRecDepth 100000
set_option maxHeartbeats 1000000
namespace Go.VK
open Go.RowKit
open Go.Proofs
open Go.IntKind
attribute [local irreducible] CW RW RA CV Y Yw Yc Ys RetOf
attribute [local irreducible] F_laws_szDyadicS F_laws_szMatrix F_laws_toRing F_laws_toDyadic F_laws_toDyadicS F_laws_toMatrix F_laws_eqRing F_laws_eqDyadic F_laws_eqDyadicS F_laws_eqMatrix F_spec_l1In F_spec_l1All F_spec_l1Good F_spec_l2C_ring F_spec_l1Root F_spec_l1Even F_spec_l1Half F_spec_l2Low F_spec_l1Add F_spec_l2C_add F_spec_l1Mul F_spec_l2C_mul F_spec_l2C_times F_spec_l1Conj F_spec_l2Conj F_spec_l3Adj F_spec_l1Has F_spec_l3Dim F_spec_l2Good F_spec_l3Good F_spec_EqualMatrices F_spec_l1Turn F_spec_l2Power F_spec_l3Unit F_spec_IsUnitary F_spec_l9Good F_spec_l1Neg F_spec_l2Neg F_spec_l6One F_spec_l9Pauli F_spec_l9Bloch F_spec_BlochOf F_spec_l1Most F_spec_l9Exp F_spec_LeastTCount F_impl_within F_impl_isDim F_slices_IndexFunc_impl_Dyadic_impl_Dyadic F_slices_ContainsFunc_impl_Dyadic_impl_Dyadic F_impl_isCoef F_impl_IsValidRing F_impl_isEven F_impl_IsValidDyadic F_impl_IsValidMatrix_1 F_impl_IsValidMatrix F_impl_matrixOf F_impl_ringIf F_impl_Conjugate F_impl_ConjDyadic F_impl_Matrix_at F_impl_Adjoint_1 F_impl_Adjoint F_impl_MulRing F_impl_DivRootTwo F_impl_DyadicOf F_impl_MulDyadic F_impl_MulRootTwo F_impl_raised F_impl_combined F_impl_AddRing F_impl_AddDyadic F_impl_MulMatrix_1 F_impl_MulMatrix F_impl_whole F_impl_IdentityMatrix_1 F_impl_IdentityMatrix F_slices_Equal_impl_Dyadic_impl_Dyadic F_impl_EqualMatrices F_impl_IsUnitary F_impl_IsOneQubit F_impl_isTwo F_impl_IsValidGate F_impl_MulOmega F_impl_phase F_impl_bitOf F_impl_flipped F_impl_comesFrom F_impl_small F_impl_entry F_impl_GateMatrix_1 F_impl_GateMatrix F_impl_TraceOf F_impl_blochCell F_impl_BlochOf F_impl_blochExp F_impl_LeastTCount F_laws_FnExactLeastTCount
theorem c_spec_l3Adj (m : TMatrix) (B : Option Addr) (c n : Nat) (w0 : World) (hn : m.Cells.length = n) (hS : ST w0 [] w0 [] [⟨B, (m.Cells.flatMap enc_Dyadic)⟩]) {r_ : TMatrix} (hF : F_spec_l3Adj m = some r_) :
    CV Tryd.prog 31 #[.agg #[vi m.Rows, vi m.Cols, .slice B n c]] w0 (fun v w' => ∃ (B1 : Option Addr) (c1 : Nat), v = .agg #[vi r_.Rows, vi r_.Cols, .slice B1 r_.Cells.length c1] ∧ ST w0 [] w' [⟨B1, 49, (r_.Cells.flatMap enc_Dyadic), c1 * 5⟩] []) := by
  subst hn
  unfold F_spec_l3Adj at hF
  refine cv_of_cw 40 Tryd.func31 rfl Tryd.ntmps31 rfl ?_
  refine cw_seq ?_
  refine cw_region ?_
  refine ss 1 rfl rfl (Ys_box (T := 32) (v := .agg #[vi m.Rows, vi m.Cols, .slice B m.Cells.length c]) (cs := [vi m.Rows, vi m.Cols, .slice B m.Cells.length c]) (m := 3) hS rfl rfl rfl rfl) ?_
  rintro _ w_ ⟨b, rfl, hS1⟩
  refine ss 2 rfl rfl (Ys_alloc (T := 32) (cs := [vi 0, vi 0, .slice none 0 0]) (m := 3) hS1 k_zero_32 rfl rfl rfl) ?_
  rintro _ w_1 ⟨b1, rfl, hS2⟩
  have hS2 : ST w0 [] _ [⟨some ⟨b, 0, none⟩, 32, [vi m.Rows, vi m.Cols, .slice B m.Cells.length c], 3⟩, ⟨some ⟨b1, 0, none⟩, 32, [vi 0, vi 0, .slice none 0 0], 3⟩] [⟨B, (m.Cells.flatMap enc_Dyadic)⟩] := hS2
  refine rw_nil ?_
  refine cw_seq ?_
  refine cw_region ?_
  refine sq 6 rfl rfl (Y_fieldAddr (B := some ⟨b, 0, none⟩) (i := 0) (s := 0) k_fd_32_1_1_3 k_sz_3_1 rfl rfl) ?_
  refine sq 7 rfl rfl (Y_load1 (B := some ⟨b, 0, none⟩) (i := 1) (cs := [vi m.Rows, vi m.Cols, .slice B m.Cells.length c]) (v := vi m.Cols) k_sc_3 rfl rfl (hS2.cf (i := 0) rfl) rfl) ?_
  refine sq 8 rfl rfl (Y_fieldAddr (B := some ⟨b, 0, none⟩) (i := 0) (s := 0) k_fd_32_0_0_3 k_sz_3_1 rfl rfl) ?_
  refine sq 9 rfl rfl (Y_load1 (B := some ⟨b, 0, none⟩) (i := 0) (cs := [vi m.Rows, vi m.Cols, .slice B m.Cells.length c]) (v := vi m.Rows) k_sc_3 rfl rfl (hS2.cf (i := 0) rfl) rfl) ?_
  refine sq 10 rfl rfl (Y_buildS (zs := [vi 0, vi 0, .slice none 0 0]) (vs := [(0, vi m.Cols), (1, vi m.Rows)]) (cs := [vi m.Cols, vi m.Rows, .slice none 0 0]) k_pl_32 k_zero_32 rfl (mpc rfl (mpc rfl mpn)) rfl) ?_
  refine ss 3 rfl rfl (Ys_alloc (T := 32) (cs := [vi 0, vi 0, .slice none 0 0]) (m := 3) hS2 k_zero_32 rfl rfl rfl) ?_
  rintro _ w_2 ⟨b2, rfl, hS3⟩
  have hS3 : ST w0 [] _ [⟨some ⟨b, 0, none⟩, 32, [vi m.Rows, vi m.Cols, .slice B m.Cells.length c], 3⟩, ⟨some ⟨b1, 0, none⟩, 32, [vi 0, vi 0, .slice none 0 0], 3⟩, ⟨some ⟨b2, 0, none⟩, 32, [vi 0, vi 0, .slice none 0 0], 3⟩] [⟨B, (m.Cells.flatMap enc_Dyadic)⟩] := hS3
  refine ss0 rfl rfl (Ys_store (i := 2) (s := 3) (B := some ⟨b2, 0, none⟩) (T' := 32) (v := .agg #[vi m.Cols, vi m.Rows, .slice none 0 0]) (vs := [vi m.Cols, vi m.Rows, .slice none 0 0]) (k := 0) (cs' := [vi m.Cols, vi m.Rows, .slice none 0 0]) hS3 k_sz_32_3 rfl rfl rfl rfl rfl rfl rfl (Nat.le_of_ble_eq_true rfl) rfl rfl) ?_
  rintro _ w_3 ⟨rfl, hS4⟩
  have hS4 : ST w0 [] _ [⟨some ⟨b, 0, none⟩, 32, [vi m.Rows, vi m.Cols, .slice B m.Cells.length c], 3⟩, ⟨some ⟨b1, 0, none⟩, 32, [vi 0, vi 0, .slice none 0 0], 3⟩, ⟨some ⟨b2, 0, none⟩, 32, [vi m.Cols, vi m.Rows, .slice none 0 0], 3⟩] [⟨B, (m.Cells.flatMap enc_Dyadic)⟩] := hS4
  refine rw_nil ?_
  refine cw_seq ?_
  refine cw_seq ?_
  refine cw_region ?_
  refine sq 4 rfl rfl (Y_assign (v := vi 0) rfl rfl) ?_
  refine rw_nil ?_
  obtain ⟨hN, hF⟩ := chk_inv hF
  obtain ⟨z, hz, hF1⟩ := bind_inv hF
  have hS6 := hS4.addNil 49
  refine cw_block ?_
  refine cw_loop (fun k f w => ∃ (j : Nat) (Cells : List TDyadic) (B2 : Option Addr) (c2 : Nat), FF f [(1, pt (some ⟨b, 0, none⟩) 0), (2, pt (some ⟨b1, 0, none⟩) 0), (3, pt (some ⟨b2, 0, none⟩) 0), (4, vi (j : Int))] ∧ ST w0 [] w [⟨some ⟨b, 0, none⟩, 32, [vi m.Rows, vi m.Cols, .slice B m.Cells.length c], 3⟩, ⟨some ⟨b1, 0, none⟩, 32, [vi 0, vi 0, .slice none 0 0], 3⟩, ⟨some ⟨b2, 0, none⟩, 32, [vi m.Cols, vi m.Rows, .slice B2 Cells.length c2], 3⟩, ⟨B2, 49, (Cells.flatMap enc_Dyadic), c2 * 5⟩] [⟨B, (m.Cells.flatMap enc_Dyadic)⟩] ∧ j + k = m.Cols.toNat ∧ forN (F_spec_l3Adj_l1 m) k j Cells = some z) m.Cols.toNat ⟨0, [], none, 0, (FF.cons rfl (FF.cons rfl (FF.cons rfl (FF.cons rfl FF.nil)))), (hS6.sel [0, 1, 2, 3] rfl rfl), Nat.zero_add _, hz⟩ ?_
  rintro k_ f w ⟨j, Cells, B2, c2, hf, hS5, hik, hL⟩
  refine cw_seq ?_
  refine cw_seq ?_
  refine cw_region ?_
  refine sq 11 rfl rfl (Y_move (v := vi (j : Int)) rfl (hf.get 4 3 rfl)) ?_
  refine sq 12 rfl rfl (Y_fieldAddr (B := some ⟨b, 0, none⟩) (i := 0) (s := 0) k_fd_32_1_1_3 k_sz_3_1 rfl (hf.get 1 0 rfl)) ?_
  refine sq 13 rfl rfl (Y_load1 (B := some ⟨b, 0, none⟩) (i := 1) (cs := [vi m.Rows, vi m.Cols, .slice B m.Cells.length c]) (v := vi m.Cols) k_sc_3 rfl rfl (hS5.cf (i := 0) rfl) rfl) ?_
  refine sq 14 rfl rfl (Y_lt (k := .i64) (a := (j : Int)) (b := m.Cols) rfl rfl rfl) ?_
  refine rw_nil ?_
  refine cw_cond (b := (decide ((j : Int) < m.Cols))) rfl (fun hlt => ?_) (fun hlt => ?_)
  · skip
    have hlt1 : j < m.Cols.toNat := by have h := of_decide_eq_true hlt; omega
    obtain ⟨k_1, rfl⟩ : ∃ k2, k_ = k2 + 1 := ⟨k_ - 1, by omega⟩
    obtain ⟨y, hb, hL1⟩ := forN_go hL
    unfold F_spec_l3Adj_l1 at hb
    refine cw_skip ?_
    refine cw_seq ?_
    refine cw_block ?_
    refine cw_seq ?_
    refine cw_region ?_
    refine sq 5 rfl rfl (Y_assign (v := vi 0) rfl rfl) ?_
    refine rw_nil ?_
    obtain ⟨hN1, hb⟩ := chk_inv hb
    obtain ⟨z1, hz1, hF2⟩ := bind_inv hb
    refine cw_block ?_
    refine cw_loop (fun k f w => ∃ (i2 : Nat) (Cells1 : List TDyadic) (B3 : Option Addr) (c3 : Nat), FF f [(1, pt (some ⟨b, 0, none⟩) 0), (2, pt (some ⟨b1, 0, none⟩) 0), (3, pt (some ⟨b2, 0, none⟩) 0), (4, vi (j : Int)), (5, vi (i2 : Int))] ∧ ST w0 [] w [⟨some ⟨b, 0, none⟩, 32, [vi m.Rows, vi m.Cols, .slice B m.Cells.length c], 3⟩, ⟨some ⟨b1, 0, none⟩, 32, [vi 0, vi 0, .slice none 0 0], 3⟩, ⟨some ⟨b2, 0, none⟩, 32, [vi m.Cols, vi m.Rows, .slice B3 Cells1.length c3], 3⟩, ⟨B3, 49, (Cells1.flatMap enc_Dyadic), c3 * 5⟩] [⟨B, (m.Cells.flatMap enc_Dyadic)⟩] ∧ i2 + k = m.Rows.toNat ∧ forN (F_spec_l3Adj_l2 m Cells j) k i2 Cells1 = some z1) m.Rows.toNat ⟨0, Cells, B2, c2, (FF.cons (hf.get 1 0 rfl) (FF.cons (hf.get 2 1 rfl) (FF.cons (hf.get 3 2 rfl) (FF.cons (hf.get 4 3 rfl) (FF.cons rfl FF.nil))))), (hS5.sel [0, 1, 2, 3] rfl rfl), Nat.zero_add _, hz1⟩ ?_
    rintro k_2 f w ⟨i2, Cells1, B3, c3, hf1, hS7, hik1, hL2⟩
    refine cw_seq ?_
    refine cw_seq ?_
    refine cw_region ?_
    refine sq 17 rfl rfl (Y_move (v := vi (i2 : Int)) rfl (hf1.get 5 4 rfl)) ?_
    refine sq 18 rfl rfl (Y_fieldAddr (B := some ⟨b, 0, none⟩) (i := 0) (s := 0) k_fd_32_0_0_3 k_sz_3_1 rfl (hf1.get 1 0 rfl)) ?_
    refine sq 19 rfl rfl (Y_load1 (B := some ⟨b, 0, none⟩) (i := 0) (cs := [vi m.Rows, vi m.Cols, .slice B m.Cells.length c]) (v := vi m.Rows) k_sc_3 rfl rfl (hS7.cf (i := 0) rfl) rfl) ?_
    refine sq 20 rfl rfl (Y_lt (k := .i64) (a := (i2 : Int)) (b := m.Rows) rfl rfl rfl) ?_
    refine rw_nil ?_
    refine cw_cond (b := (decide ((i2 : Int) < m.Rows))) rfl (fun hlt2 => ?_) (fun hlt2 => ?_)
    · skip
      have hlt3 : i2 < m.Rows.toNat := by have h := of_decide_eq_true hlt2; omega
      obtain ⟨k_3, rfl⟩ : ∃ k2, k_2 = k2 + 1 := ⟨k_2 - 1, by omega⟩
      obtain ⟨y1, hb1, hL3⟩ := forN_go hL2
      unfold F_spec_l3Adj_l2 at hb1
      refine cw_skip ?_
      refine cw_seq ?_
      refine cw_block ?_
      obtain ⟨x, hx, hb1⟩ := bind_inv hb1
      obtain ⟨r_1, hc, hb1⟩ := bind_inv hb1
      obtain ⟨hap, hb1⟩ := chk_inv hb1
      refine cw_mid (fun f w => ∃ (B5 : Option Addr) (c5 : Nat), FF f [(1, pt (some ⟨b, 0, none⟩) 0), (2, pt (some ⟨b1, 0, none⟩) 0), (3, pt (some ⟨b2, 0, none⟩) 0), (4, vi (j : Int)), (5, vi (i2 : Int))] ∧ ST w0 [] w [⟨some ⟨b, 0, none⟩, 32, [vi m.Rows, vi m.Cols, .slice B m.Cells.length c], 3⟩, ⟨some ⟨b1, 0, none⟩, 32, [vi 0, vi 0, .slice none 0 0], 3⟩, ⟨some ⟨b2, 0, none⟩, 32, [vi m.Cols, vi m.Rows, .slice B5 ((Cells1 ++ [r_1]).length) c5], 3⟩, ⟨B5, 49, ((Cells1 ++ [r_1]).flatMap enc_Dyadic), c5 * 5⟩] [⟨B, (m.Cells.flatMap enc_Dyadic)⟩]) ?_ ?_
      · skip
        refine ra_start (ST.sel hS7 [0, 1] rfl rfl).fn (by kernel_rfl) ?_
        have hS10 := hS7.drew
        refine ra_q 0 23 (v := pt (some ⟨b2, 0, none⟩) 2) rfl rfl rfl (by kernel_rfl) (by kernel_rfl) (by kernel_rfl) (ST.sel hS10 [0, 1] rfl rfl) (fun w' hw' => (Y_fieldAddr (B := some ⟨b2, 0, none⟩) (i := 0) (s := 0) k_fd_32_2_2_26 k_sz_26_1 rfl (hf1.get 3 2 rfl))) ?_
        refine ra_q 2 25 (v := pt (some ⟨b, 0, none⟩) 2) rfl rfl rfl (by kernel_rfl) (by kernel_rfl) (by kernel_rfl) (ST.sel hS10 [0, 1] rfl rfl) (fun w' hw' => (Y_fieldAddr (B := some ⟨b, 0, none⟩) (i := 0) (s := 0) k_fd_32_2_2_26 k_sz_26_1 rfl (hf1.get 1 0 rfl))) ?_
        refine ra_q 3 26 (v := .slice B m.Cells.length c) rfl rfl rfl (by kernel_rfl) (by kernel_rfl) (by kernel_rfl) (ST.sel hS10 [0, 1] rfl rfl) (fun w' hw' => (Y_load1 (B := some ⟨b, 0, none⟩) (i := 2) (cs := [vi m.Rows, vi m.Cols, .slice B m.Cells.length c]) (v := .slice B m.Cells.length c) k_sc_26 rfl rfl (ST.cf hw' (i := 0) rfl) rfl)) ?_
        refine ra_q 4 27 (v := vi (i2 : Int)) rfl rfl rfl (by kernel_rfl) (by kernel_rfl) (by kernel_rfl) (ST.sel hS10 [0, 1] rfl rfl) (fun w' hw' => (Y_move (v := vi (i2 : Int)) rfl (hf1.get 5 4 rfl))) ?_
        refine ra_q 5 28 (v := pt (some ⟨b, 0, none⟩) 1) rfl rfl rfl (by kernel_rfl) (by kernel_rfl) (by kernel_rfl) (ST.sel hS10 [0, 1] rfl rfl) (fun w' hw' => (Y_fieldAddr (B := some ⟨b, 0, none⟩) (i := 0) (s := 0) k_fd_32_1_1_3 k_sz_3_1 rfl (hf1.get 1 0 rfl))) ?_
        refine ra_q 6 29 (v := vi m.Cols) rfl rfl rfl (by kernel_rfl) (by kernel_rfl) (by kernel_rfl) (ST.sel hS10 [0, 1] rfl rfl) (fun w' hw' => (Y_load1 (B := some ⟨b, 0, none⟩) (i := 1) (cs := [vi m.Rows, vi m.Cols, .slice B m.Cells.length c]) (v := vi m.Cols) k_sc_3 rfl rfl (ST.cf hw' (i := 0) rfl) rfl)) ?_
        refine ra_q 7 30 (v := vi (i64.wrap ((i2 : Int) * m.Cols))) rfl rfl rfl (by kernel_rfl) (by kernel_rfl) (by kernel_rfl) (ST.sel hS10 [0, 1] rfl rfl) (fun w' hw' => (Y_mul (k := .i64) (a := (i2 : Int)) (b := m.Cols) rfl rfl rfl)) ?_
        refine ra_q 8 31 (v := vi (j : Int)) rfl rfl rfl (by kernel_rfl) (by kernel_rfl) (by kernel_rfl) (ST.sel hS10 [0, 1] rfl rfl) (fun w' hw' => (Y_move (v := vi (j : Int)) rfl (hf1.get 4 3 rfl))) ?_
        refine ra_q 9 32 (v := vi (i64.wrap ((i64.wrap ((i2 : Int) * m.Cols)) + (j : Int)))) rfl rfl rfl (by kernel_rfl) (by kernel_rfl) (by kernel_rfl) (ST.sel hS10 [0, 1] rfl rfl) (fun w' hw' => (Y_add (k := .i64) (a := (i64.wrap ((i2 : Int) * m.Cols))) (b := (j : Int)) rfl rfl rfl)) ?_
        refine ra_q 10 33 (v := pt B ((i64.wrap ((i64.wrap ((i2 : Int) * m.Cols)) + (j : Int))).toNat * 5)) rfl rfl rfl (by kernel_rfl) (by kernel_rfl) (by kernel_rfl) (ST.sel hS10 [0, 1] rfl rfl) (fun w' hw' => (Y_index (B := B) (m := m.Cells.length) (c := c) (k := .i64) (i := (i64.wrap ((i64.wrap ((i2 : Int) * m.Cols)) + (j : Int)))) k_sl_26_49 k_sz_49_5 rfl rfl rfl (gi_isSome enc_Dyadic_len rfl (ST.rf hw' (i := 0) rfl) hx) (getI_nn hx) (getI_ltI hx rfl))) ?_
        refine ra_q 11 34 (v := .agg #[vi x.Num.A, vi x.Num.B, vi x.Num.C, vi x.Num.D, vi x.Exp]) rfl rfl rfl (by kernel_rfl) (by kernel_rfl) (by kernel_rfl) (ST.sel hS10 [0, 1] rfl rfl) (fun w' hw' => (Y_loadA (B := B) (i := (i64.wrap ((i64.wrap ((i2 : Int) * m.Cols)) + (j : Int))).toNat * 5) (cs := (m.Cells.flatMap enc_Dyadic)) (vs := [vi x.Num.A, vi x.Num.B, vi x.Num.C, vi x.Num.D, vi x.Exp]) k_ag_49 k_sz_49_5 rfl rfl (ST.rf hw' (i := 0) rfl) (enc_Dyadic_len x) (gi_seg enc_Dyadic_len hx))) ?_
        refine ra_all (rs := [1, 12]) (by kernel_rfl) rfl ?_
        refine ra_y 24 (i := 1) (v := .slice B3 Cells1.length c3) rfl rfl rfl (Y_load1 (B := some ⟨b2, 0, none⟩) (i := 2) (cs := [vi m.Cols, vi m.Rows, .slice B3 Cells1.length c3]) (v := .slice B3 Cells1.length c3) k_sc_26 rfl rfl (hS10.cf (i := 2) rfl) rfl) (ST.sel hS10 [0, 1] rfl rfl) ?_ ?_
        · skip
          refine ra_all (rs := [12]) (by kernel_rfl) rfl ?_
          refine ra_c 35 (i := 12) rfl rfl rfl (Yc_func (g := 51) (vs := [.agg #[vi x.Num.A, vi x.Num.B, vi x.Num.C, vi x.Num.D, vi x.Exp]]) k_call_51 rfl (mc rfl mn) (c_spec_l2Conj x _  (hS10.inn0 [] rfl) hc)) ?_ ?_
          · rintro _ w_4 ⟨rfl, hd⟩
            have hS11 := hS10.out00 hd
            have hS11 : ST w0 [] _ [⟨some ⟨b, 0, none⟩, 32, [vi m.Rows, vi m.Cols, .slice B m.Cells.length c], 3⟩, ⟨some ⟨b1, 0, none⟩, 32, [vi 0, vi 0, .slice none 0 0], 3⟩, ⟨some ⟨b2, 0, none⟩, 32, [vi m.Cols, vi m.Rows, .slice B3 Cells1.length c3], 3⟩, ⟨B3, 49, (Cells1.flatMap enc_Dyadic), c3 * 5⟩] [⟨B, (m.Cells.flatMap enc_Dyadic)⟩] := hS11
            refine ⟨(ST.sel hS11 [0, 1] rfl rfl), ?_⟩
            refine ra_all (rs := [13]) (by kernel_rfl) rfl ?_
            refine ra_s 36 (i := 13) rfl rfl rfl (Ys_bslice (s := 5) (len := 1) (vs := [(0, .agg #[vi r_1.Num.A, vi r_1.Num.B, vi r_1.Num.C, vi r_1.Num.D, vi r_1.Exp])]) (cs := [vi r_1.Num.A, vi r_1.Num.B, vi r_1.Num.C, vi r_1.Num.D, vi r_1.Exp]) (zs := [vi 0, vi 0, vi 0, vi 0, vi 0]) (m := 5) hS11 k_sl_26_49 k_sz_49_5 k_zc_49 rfl (mpc rfl mpn) rfl rfl rfl (by kernel_rfl) (by kernel_rfl) rfl) ?_ ?_
            · rintro _ w_5 ⟨b3, rfl, hS12⟩
              have hS12 : ST w0 [] _ [⟨some ⟨b, 0, none⟩, 32, [vi m.Rows, vi m.Cols, .slice B m.Cells.length c], 3⟩, ⟨some ⟨b1, 0, none⟩, 32, [vi 0, vi 0, .slice none 0 0], 3⟩, ⟨some ⟨b2, 0, none⟩, 32, [vi m.Cols, vi m.Rows, .slice B3 Cells1.length c3], 3⟩, ⟨B3, 49, (Cells1.flatMap enc_Dyadic), c3 * 5⟩, ⟨some ⟨b3, 0, none⟩, 49, ([r_1].flatMap enc_Dyadic), 1 * 5⟩] [⟨B, (m.Cells.flatMap enc_Dyadic)⟩] := hS12
              refine ⟨(ST.sel hS12 [0, 1] rfl rfl), ?_⟩
              refine ra_all (rs := [14]) (by kernel_rfl) rfl ?_
              refine ra_s 37 (i := 14) rfl rfl rfl (Ys_append (s := 5) (by' := 40) (i := 3) (nn := Cells1.length) (c := c3) (k := 1) (len := (Cells1 ++ [r_1]).length) (B := B3) (xs := ([r_1].flatMap enc_Dyadic)) (cs' := ((Cells1 ++ [r_1]).flatMap enc_Dyadic)) hS12 k_sl_26_49 k_sz_49_5 k_by_49_40 k_zero_49 rfl (by decide) rfl rfl rfl rfl (fm_lenn (l := Cells1) enc_Dyadic_len rfl) rfl (hS12.cf (i := 4) rfl) (fm_lenn (l := [r_1]) enc_Dyadic_len rfl) (fm_one' (enc := enc_Dyadic) enc_Dyadic_one [r_1]) (by have := hap; omega) (by have := hap; simp only [maxLen]; omega) (fm_app _ _) (app_len (l := Cells1) (l' := [r_1]) rfl rfl)) ?_ ?_
              · rintro _ w_6 ⟨B4, c4, rfl, hS13⟩
                have hS13 : ST w0 [] _ [⟨some ⟨b, 0, none⟩, 32, [vi m.Rows, vi m.Cols, .slice B m.Cells.length c], 3⟩, ⟨some ⟨b1, 0, none⟩, 32, [vi 0, vi 0, .slice none 0 0], 3⟩, ⟨some ⟨b2, 0, none⟩, 32, [vi m.Cols, vi m.Rows, .slice B3 Cells1.length c3], 3⟩, ⟨B4, 49, ((Cells1 ++ [r_1]).flatMap enc_Dyadic), c4 * 5⟩, ⟨some ⟨b3, 0, none⟩, 49, ([r_1].flatMap enc_Dyadic), 1 * 5⟩] [⟨B, (m.Cells.flatMap enc_Dyadic)⟩] := hS13
                refine ⟨(ST.sel hS13 [0, 1] rfl rfl), ?_⟩
                refine ra_q 15 38 (v := pt (some ⟨b2, 0, none⟩) 2) rfl rfl rfl (by kernel_rfl) (by kernel_rfl) (by kernel_rfl) (ST.sel hS13 [0, 1] rfl rfl) (fun w' hw' => (Y_fieldAddr (B := some ⟨b2, 0, none⟩) (i := 0) (s := 0) k_fd_32_2_2_26 k_sz_26_1 rfl (hf1.get 3 2 rfl))) ?_
                refine ra_all (rs := [16]) (by kernel_rfl) rfl ?_
                refine ra_s0 (i := 16) rfl rfl rfl (Ys_store (i := 2) (s := 1) (B := some ⟨b2, 0, none⟩) (T' := 32) (v := .slice B4 ((Cells1 ++ [r_1]).length) c4) (vs := [.slice B4 ((Cells1 ++ [r_1]).length) c4]) (k := 2) (cs' := [vi m.Cols, vi m.Rows, .slice B4 ((Cells1 ++ [r_1]).length) c4]) hS13 k_sz_26_1 rfl rfl rfl rfl rfl rfl rfl (Nat.le_of_ble_eq_true rfl) rfl rfl) ?_ ?_
                · rintro _ w_7 ⟨rfl, hS14⟩
                  have hS14 : ST w0 [] _ [⟨some ⟨b, 0, none⟩, 32, [vi m.Rows, vi m.Cols, .slice B m.Cells.length c], 3⟩, ⟨some ⟨b1, 0, none⟩, 32, [vi 0, vi 0, .slice none 0 0], 3⟩, ⟨some ⟨b2, 0, none⟩, 32, [vi m.Cols, vi m.Rows, .slice B4 ((Cells1 ++ [r_1]).length) c4], 3⟩, ⟨B4, 49, ((Cells1 ++ [r_1]).flatMap enc_Dyadic), c4 * 5⟩, ⟨some ⟨b3, 0, none⟩, 49, ([r_1].flatMap enc_Dyadic), 1 * 5⟩] [⟨B, (m.Cells.flatMap enc_Dyadic)⟩] := hS14
                  refine ⟨(ST.sel hS14 [0, 1] rfl rfl), ?_⟩
                  refine ra_done (by kernel_rfl) ?_
                  exact ⟨B4, c4, (FF.cons (hf1.get 1 0 rfl) (FF.cons (hf1.get 2 1 rfl) (FF.cons (hf1.get 3 2 rfl) (FF.cons (hf1.get 4 3 rfl) (FF.cons (hf1.get 5 4 rfl) FF.nil))))), (hS14.sel [0, 1, 2, 3] rfl rfl)⟩
                exact allR_nil
              exact allR_nil
            exact allR_nil
          exact allR_nil
        refine ra_c 35 (i := 12) rfl rfl rfl (Yc_func (g := 51) (vs := [.agg #[vi x.Num.A, vi x.Num.B, vi x.Num.C, vi x.Num.D, vi x.Exp]]) k_call_51 rfl (mc rfl mn) (c_spec_l2Conj x _  (hS10.inn0 [] rfl) hc)) ?_ ?_
        · rintro _ w_8 ⟨rfl, hd1⟩
          have hS15 := hS10.out00 hd1
          have hS15 : ST w0 [] _ [⟨some ⟨b, 0, none⟩, 32, [vi m.Rows, vi m.Cols, .slice B m.Cells.length c], 3⟩, ⟨some ⟨b1, 0, none⟩, 32, [vi 0, vi 0, .slice none 0 0], 3⟩, ⟨some ⟨b2, 0, none⟩, 32, [vi m.Cols, vi m.Rows, .slice B3 Cells1.length c3], 3⟩, ⟨B3, 49, (Cells1.flatMap enc_Dyadic), c3 * 5⟩] [⟨B, (m.Cells.flatMap enc_Dyadic)⟩] := hS15
          refine ⟨(ST.sel hS15 [0, 1] rfl rfl), ?_⟩
          refine ra_all (rs := [1, 13]) (by kernel_rfl) rfl ?_
          refine ra_y 24 (i := 1) (v := .slice B3 Cells1.length c3) rfl rfl rfl (Y_load1 (B := some ⟨b2, 0, none⟩) (i := 2) (cs := [vi m.Cols, vi m.Rows, .slice B3 Cells1.length c3]) (v := .slice B3 Cells1.length c3) k_sc_26 rfl rfl (hS15.cf (i := 2) rfl) rfl) (ST.sel hS15 [0, 1] rfl rfl) ?_ ?_
          · skip
            refine ra_all (rs := [13]) (by kernel_rfl) rfl ?_
            refine ra_s 36 (i := 13) rfl rfl rfl (Ys_bslice (s := 5) (len := 1) (vs := [(0, .agg #[vi r_1.Num.A, vi r_1.Num.B, vi r_1.Num.C, vi r_1.Num.D, vi r_1.Exp])]) (cs := [vi r_1.Num.A, vi r_1.Num.B, vi r_1.Num.C, vi r_1.Num.D, vi r_1.Exp]) (zs := [vi 0, vi 0, vi 0, vi 0, vi 0]) (m := 5) hS15 k_sl_26_49 k_sz_49_5 k_zc_49 rfl (mpc rfl mpn) rfl rfl rfl (by kernel_rfl) (by kernel_rfl) rfl) ?_ ?_
            · rintro _ w_9 ⟨b3, rfl, hS16⟩
              have hS16 : ST w0 [] _ [⟨some ⟨b, 0, none⟩, 32, [vi m.Rows, vi m.Cols, .slice B m.Cells.length c], 3⟩, ⟨some ⟨b1, 0, none⟩, 32, [vi 0, vi 0, .slice none 0 0], 3⟩, ⟨some ⟨b2, 0, none⟩, 32, [vi m.Cols, vi m.Rows, .slice B3 Cells1.length c3], 3⟩, ⟨B3, 49, (Cells1.flatMap enc_Dyadic), c3 * 5⟩, ⟨some ⟨b3, 0, none⟩, 49, ([r_1].flatMap enc_Dyadic), 1 * 5⟩] [⟨B, (m.Cells.flatMap enc_Dyadic)⟩] := hS16
              refine ⟨(ST.sel hS16 [0, 1] rfl rfl), ?_⟩
              refine ra_all (rs := [14]) (by kernel_rfl) rfl ?_
              refine ra_s 37 (i := 14) rfl rfl rfl (Ys_append (s := 5) (by' := 40) (i := 3) (nn := Cells1.length) (c := c3) (k := 1) (len := (Cells1 ++ [r_1]).length) (B := B3) (xs := ([r_1].flatMap enc_Dyadic)) (cs' := ((Cells1 ++ [r_1]).flatMap enc_Dyadic)) hS16 k_sl_26_49 k_sz_49_5 k_by_49_40 k_zero_49 rfl (by decide) rfl rfl rfl rfl (fm_lenn (l := Cells1) enc_Dyadic_len rfl) rfl (hS16.cf (i := 4) rfl) (fm_lenn (l := [r_1]) enc_Dyadic_len rfl) (fm_one' (enc := enc_Dyadic) enc_Dyadic_one [r_1]) (by have := hap; omega) (by have := hap; simp only [maxLen]; omega) (fm_app _ _) (app_len (l := Cells1) (l' := [r_1]) rfl rfl)) ?_ ?_
              · rintro _ w_10 ⟨B4, c4, rfl, hS17⟩
                have hS17 : ST w0 [] _ [⟨some ⟨b, 0, none⟩, 32, [vi m.Rows, vi m.Cols, .slice B m.Cells.length c], 3⟩, ⟨some ⟨b1, 0, none⟩, 32, [vi 0, vi 0, .slice none 0 0], 3⟩, ⟨some ⟨b2, 0, none⟩, 32, [vi m.Cols, vi m.Rows, .slice B3 Cells1.length c3], 3⟩, ⟨B4, 49, ((Cells1 ++ [r_1]).flatMap enc_Dyadic), c4 * 5⟩, ⟨some ⟨b3, 0, none⟩, 49, ([r_1].flatMap enc_Dyadic), 1 * 5⟩] [⟨B, (m.Cells.flatMap enc_Dyadic)⟩] := hS17
                refine ⟨(ST.sel hS17 [0, 1] rfl rfl), ?_⟩
                refine ra_q 15 38 (v := pt (some ⟨b2, 0, none⟩) 2) rfl rfl rfl (by kernel_rfl) (by kernel_rfl) (by kernel_rfl) (ST.sel hS17 [0, 1] rfl rfl) (fun w' hw' => (Y_fieldAddr (B := some ⟨b2, 0, none⟩) (i := 0) (s := 0) k_fd_32_2_2_26 k_sz_26_1 rfl (hf1.get 3 2 rfl))) ?_
                refine ra_all (rs := [16]) (by kernel_rfl) rfl ?_
                refine ra_s0 (i := 16) rfl rfl rfl (Ys_store (i := 2) (s := 1) (B := some ⟨b2, 0, none⟩) (T' := 32) (v := .slice B4 ((Cells1 ++ [r_1]).length) c4) (vs := [.slice B4 ((Cells1 ++ [r_1]).length) c4]) (k := 2) (cs' := [vi m.Cols, vi m.Rows, .slice B4 ((Cells1 ++ [r_1]).length) c4]) hS17 k_sz_26_1 rfl rfl rfl rfl rfl rfl rfl (Nat.le_of_ble_eq_true rfl) rfl rfl) ?_ ?_
                · rintro _ w_11 ⟨rfl, hS18⟩
                  have hS18 : ST w0 [] _ [⟨some ⟨b, 0, none⟩, 32, [vi m.Rows, vi m.Cols, .slice B m.Cells.length c], 3⟩, ⟨some ⟨b1, 0, none⟩, 32, [vi 0, vi 0, .slice none 0 0], 3⟩, ⟨some ⟨b2, 0, none⟩, 32, [vi m.Cols, vi m.Rows, .slice B4 ((Cells1 ++ [r_1]).length) c4], 3⟩, ⟨B4, 49, ((Cells1 ++ [r_1]).flatMap enc_Dyadic), c4 * 5⟩, ⟨some ⟨b3, 0, none⟩, 49, ([r_1].flatMap enc_Dyadic), 1 * 5⟩] [⟨B, (m.Cells.flatMap enc_Dyadic)⟩] := hS18
                  refine ⟨(ST.sel hS18 [0, 1] rfl rfl), ?_⟩
                  refine ra_done (by kernel_rfl) ?_
                  exact ⟨B4, c4, (FF.cons (hf1.get 1 0 rfl) (FF.cons (hf1.get 2 1 rfl) (FF.cons (hf1.get 3 2 rfl) (FF.cons (hf1.get 4 3 rfl) (FF.cons (hf1.get 5 4 rfl) FF.nil))))), (hS18.sel [0, 1, 2, 3] rfl rfl)⟩
                exact allR_nil
              exact allR_nil
            exact allR_nil
          refine ra_s 36 (i := 13) rfl rfl rfl (Ys_bslice (s := 5) (len := 1) (vs := [(0, .agg #[vi r_1.Num.A, vi r_1.Num.B, vi r_1.Num.C, vi r_1.Num.D, vi r_1.Exp])]) (cs := [vi r_1.Num.A, vi r_1.Num.B, vi r_1.Num.C, vi r_1.Num.D, vi r_1.Exp]) (zs := [vi 0, vi 0, vi 0, vi 0, vi 0]) (m := 5) hS15 k_sl_26_49 k_sz_49_5 k_zc_49 rfl (mpc rfl mpn) rfl rfl rfl (by kernel_rfl) (by kernel_rfl) rfl) ?_ ?_
          · rintro _ w_12 ⟨b3, rfl, hS19⟩
            have hS19 : ST w0 [] _ [⟨some ⟨b, 0, none⟩, 32, [vi m.Rows, vi m.Cols, .slice B m.Cells.length c], 3⟩, ⟨some ⟨b1, 0, none⟩, 32, [vi 0, vi 0, .slice none 0 0], 3⟩, ⟨some ⟨b2, 0, none⟩, 32, [vi m.Cols, vi m.Rows, .slice B3 Cells1.length c3], 3⟩, ⟨B3, 49, (Cells1.flatMap enc_Dyadic), c3 * 5⟩, ⟨some ⟨b3, 0, none⟩, 49, ([r_1].flatMap enc_Dyadic), 1 * 5⟩] [⟨B, (m.Cells.flatMap enc_Dyadic)⟩] := hS19
            refine ⟨(ST.sel hS19 [0, 1] rfl rfl), ?_⟩
            refine ra_all (rs := [1]) (by kernel_rfl) rfl ?_
            refine ra_y 24 (i := 1) (v := .slice B3 Cells1.length c3) rfl rfl rfl (Y_load1 (B := some ⟨b2, 0, none⟩) (i := 2) (cs := [vi m.Cols, vi m.Rows, .slice B3 Cells1.length c3]) (v := .slice B3 Cells1.length c3) k_sc_26 rfl rfl (hS19.cf (i := 2) rfl) rfl) (ST.sel hS19 [0, 1] rfl rfl) ?_ ?_
            · skip
              refine ra_all (rs := [14]) (by kernel_rfl) rfl ?_
              refine ra_s 37 (i := 14) rfl rfl rfl (Ys_append (s := 5) (by' := 40) (i := 3) (nn := Cells1.length) (c := c3) (k := 1) (len := (Cells1 ++ [r_1]).length) (B := B3) (xs := ([r_1].flatMap enc_Dyadic)) (cs' := ((Cells1 ++ [r_1]).flatMap enc_Dyadic)) hS19 k_sl_26_49 k_sz_49_5 k_by_49_40 k_zero_49 rfl (by decide) rfl rfl rfl rfl (fm_lenn (l := Cells1) enc_Dyadic_len rfl) rfl (hS19.cf (i := 4) rfl) (fm_lenn (l := [r_1]) enc_Dyadic_len rfl) (fm_one' (enc := enc_Dyadic) enc_Dyadic_one [r_1]) (by have := hap; omega) (by have := hap; simp only [maxLen]; omega) (fm_app _ _) (app_len (l := Cells1) (l' := [r_1]) rfl rfl)) ?_ ?_
              · rintro _ w_13 ⟨B4, c4, rfl, hS20⟩
                have hS20 : ST w0 [] _ [⟨some ⟨b, 0, none⟩, 32, [vi m.Rows, vi m.Cols, .slice B m.Cells.length c], 3⟩, ⟨some ⟨b1, 0, none⟩, 32, [vi 0, vi 0, .slice none 0 0], 3⟩, ⟨some ⟨b2, 0, none⟩, 32, [vi m.Cols, vi m.Rows, .slice B3 Cells1.length c3], 3⟩, ⟨B4, 49, ((Cells1 ++ [r_1]).flatMap enc_Dyadic), c4 * 5⟩, ⟨some ⟨b3, 0, none⟩, 49, ([r_1].flatMap enc_Dyadic), 1 * 5⟩] [⟨B, (m.Cells.flatMap enc_Dyadic)⟩] := hS20
                refine ⟨(ST.sel hS20 [0, 1] rfl rfl), ?_⟩
                refine ra_q 15 38 (v := pt (some ⟨b2, 0, none⟩) 2) rfl rfl rfl (by kernel_rfl) (by kernel_rfl) (by kernel_rfl) (ST.sel hS20 [0, 1] rfl rfl) (fun w' hw' => (Y_fieldAddr (B := some ⟨b2, 0, none⟩) (i := 0) (s := 0) k_fd_32_2_2_26 k_sz_26_1 rfl (hf1.get 3 2 rfl))) ?_
                refine ra_all (rs := [16]) (by kernel_rfl) rfl ?_
                refine ra_s0 (i := 16) rfl rfl rfl (Ys_store (i := 2) (s := 1) (B := some ⟨b2, 0, none⟩) (T' := 32) (v := .slice B4 ((Cells1 ++ [r_1]).length) c4) (vs := [.slice B4 ((Cells1 ++ [r_1]).length) c4]) (k := 2) (cs' := [vi m.Cols, vi m.Rows, .slice B4 ((Cells1 ++ [r_1]).length) c4]) hS20 k_sz_26_1 rfl rfl rfl rfl rfl rfl rfl (Nat.le_of_ble_eq_true rfl) rfl rfl) ?_ ?_
                · rintro _ w_14 ⟨rfl, hS21⟩
                  have hS21 : ST w0 [] _ [⟨some ⟨b, 0, none⟩, 32, [vi m.Rows, vi m.Cols, .slice B m.Cells.length c], 3⟩, ⟨some ⟨b1, 0, none⟩, 32, [vi 0, vi 0, .slice none 0 0], 3⟩, ⟨some ⟨b2, 0, none⟩, 32, [vi m.Cols, vi m.Rows, .slice B4 ((Cells1 ++ [r_1]).length) c4], 3⟩, ⟨B4, 49, ((Cells1 ++ [r_1]).flatMap enc_Dyadic), c4 * 5⟩, ⟨some ⟨b3, 0, none⟩, 49, ([r_1].flatMap enc_Dyadic), 1 * 5⟩] [⟨B, (m.Cells.flatMap enc_Dyadic)⟩] := hS21
                  refine ⟨(ST.sel hS21 [0, 1] rfl rfl), ?_⟩
                  refine ra_done (by kernel_rfl) ?_
                  exact ⟨B4, c4, (FF.cons (hf1.get 1 0 rfl) (FF.cons (hf1.get 2 1 rfl) (FF.cons (hf1.get 3 2 rfl) (FF.cons (hf1.get 4 3 rfl) (FF.cons (hf1.get 5 4 rfl) FF.nil))))), (hS21.sel [0, 1, 2, 3] rfl rfl)⟩
                exact allR_nil
              exact allR_nil
            exact allR_nil
          exact allR_nil
        exact allR_nil
      rintro f w ⟨B5, c5, hf2, hS9⟩
      refine cw_region ?_
      refine sq 21 rfl rfl (Y_move (v := vi (i2 : Int)) rfl (hf2.get 5 4 rfl)) ?_
      refine sq 22 rfl rfl (Y_add (k := .i64) (a := (i2 : Int)) (b := 1) rfl rfl rfl) ?_
      refine sq 5 rfl rfl (Y_assign (v := vi (i64.wrap ((i2 : Int) + 1))) rfl rfl) ?_
      refine rw_nil ?_
      obtain rfl := some_inj hb1
      exact ⟨k_3, Nat.lt_succ_self _, i2 + 1, (Cells1 ++ [r_1]), B5, c5, (FF.cons (hf2.get 1 0 rfl) (FF.cons (hf2.get 2 1 rfl) (FF.cons (hf2.get 3 2 rfl) (FF.cons (hf2.get 4 3 rfl) (FF.cons (congrArg (Value.int .i64) (wr_succ hlt3 hN1)) FF.nil))))), (hS9.sel [0, 1, 2, 3] rfl rfl), (by omega), hL3⟩
    · skip
      obtain rfl : k_2 = 0 := by have h := of_decide_eq_false hlt2; omega
      refine cw_exit rfl ?_
      obtain rfl := some_inj hL2
      refine cw_region ?_
      refine sq 15 rfl rfl (Y_move (v := vi (j : Int)) rfl (hf1.get 4 3 rfl)) ?_
      refine sq 16 rfl rfl (Y_add (k := .i64) (a := (j : Int)) (b := 1) rfl rfl rfl) ?_
      refine sq 4 rfl rfl (Y_assign (v := vi (i64.wrap ((j : Int) + 1))) rfl rfl) ?_
      refine rw_nil ?_
      obtain rfl := some_inj hF2
      exact ⟨k_1, Nat.lt_succ_self _, j + 1, Cells1, B3, c3, (FF.cons (hf1.get 1 0 rfl) (FF.cons (hf1.get 2 1 rfl) (FF.cons (hf1.get 3 2 rfl) (FF.cons (congrArg (Value.int .i64) (wr_succ hlt1 hN)) FF.nil)))), (hS7.sel [0, 1, 2, 3] rfl rfl), (by omega), hL1⟩
  · skip
    obtain rfl : k_ = 0 := by have h := of_decide_eq_false hlt; omega
    refine cw_exit rfl ?_
    obtain rfl := some_inj hL
    refine cw_seq ?_
    refine cw_region ?_
    refine sq 39 rfl rfl (Y_loadA (B := some ⟨b2, 0, none⟩) (i := 0) (cs := [vi m.Cols, vi m.Rows, .slice B2 Cells.length c2]) (vs := [vi m.Cols, vi m.Rows, .slice B2 Cells.length c2]) k_ag_32 k_sz_32_3 rfl (hf.get 3 2 rfl) (hS5.cf (i := 2) rfl) rfl rfl) ?_
    refine ss0 rfl rfl (Ys_store (i := 1) (s := 3) (B := some ⟨b1, 0, none⟩) (T' := 32) (v := .agg #[vi m.Cols, vi m.Rows, .slice B2 Cells.length c2]) (vs := [vi m.Cols, vi m.Rows, .slice B2 Cells.length c2]) (k := 0) (cs' := [vi m.Cols, vi m.Rows, .slice B2 Cells.length c2]) hS5 k_sz_32_3 rfl (hf.get 2 1 rfl) rfl rfl rfl rfl rfl (Nat.le_of_ble_eq_true rfl) rfl rfl) ?_
    rintro _ w_15 ⟨rfl, hS22⟩
    have hS22 : ST w0 [] _ [⟨some ⟨b, 0, none⟩, 32, [vi m.Rows, vi m.Cols, .slice B m.Cells.length c], 3⟩, ⟨some ⟨b1, 0, none⟩, 32, [vi m.Cols, vi m.Rows, .slice B2 Cells.length c2], 3⟩, ⟨some ⟨b2, 0, none⟩, 32, [vi m.Cols, vi m.Rows, .slice B2 Cells.length c2], 3⟩, ⟨B2, 49, (Cells.flatMap enc_Dyadic), c2 * 5⟩] [⟨B, (m.Cells.flatMap enc_Dyadic)⟩] := hS22
    refine rw_nil ?_
    refine cw_ret ?_
    obtain rfl := some_inj hF1
    exact ret1 Tryd.results31 (v1 := .agg #[vi m.Cols, vi m.Rows, .slice B2 Cells.length c2]) (resAt_cellA (B := some ⟨b1, 0, none⟩) (i := 0) (cs := [vi m.Cols, vi m.Rows, .slice B2 Cells.length c2]) (vs := [vi m.Cols, vi m.Rows, .slice B2 Cells.length c2]) (hf.get 2 1 rfl) k_ag_32 k_sz_32_3 (hS22.cf (i := 1) rfl) rfl rfl) ⟨B2, c2, rfl, (ST.subR (R' := []) (hS22.sel [3] rfl rfl) (fun _ h => by cases h))⟩

theorem c_spec_l1Has (l : List Int) (n1 : Int) (B : Option Addr) (c n : Nat) (w0 : World) (hn : l.length = n) (hS : ST w0 [] w0 [] [⟨B, (l.flatMap encI)⟩]) {r_ : Bool} (hF : F_spec_l1Has l n1 = some r_) :
    CV Tryd.prog 99 #[.slice B n c, vi n1] w0 (fun v w' => v = .bool r_ ∧ ST w0 [] w' [] []) := by
  subst hn
  unfold F_spec_l1Has at hF
  refine cv_of_cw 17 Tryd.func99 rfl Tryd.ntmps99 rfl ?_
  refine cw_seq ?_
  refine cw_region ?_
  refine sq 4 rfl rfl (Y_assign (v := .bool false) rfl rfl) ?_
  refine rw_nil ?_
  refine cw_seq ?_
  refine cw_seq ?_
  refine cw_region ?_
  refine sq 7 rfl rfl (Y_move (v := .slice B l.length c) rfl rfl) ?_
  refine sq 8 rfl rfl (Y_len (B := B) (m := l.length) (c := c) k_sl_102_3 rfl rfl) ?_
  refine sq 9 rfl rfl (Y_move (v := vi 0) rfl rfl) ?_
  refine rw_nil ?_
  obtain ⟨hN, hF⟩ := chk_inv hF
  obtain ⟨z, hz, hF1⟩ := bind_inv hF
  refine cw_block ?_
  refine cw_loop (fun k f w => ∃ (i : Nat), FF f [(1, vi n1), (7, .slice B l.length c), (8, vi (l.length : Int)), (9, vi (i : Int))] ∧ ST w0 [] w [] [⟨B, (l.flatMap encI)⟩] ∧ i + k = l.length ∧ forX (F_spec_l1Has_l1 l n1) k i () = some z) l.length ⟨0, (FF.cons rfl (FF.cons rfl (FF.cons rfl (FF.cons rfl FF.nil)))), (hS.sel [] rfl rfl), Nat.zero_add _, hz⟩ ?_
  rintro k_ f w ⟨i, hf, hS1, hik, hL⟩
  refine cw_seq ?_
  refine cw_region ?_
  refine sq 10 rfl rfl (Y_lt (k := .i64) (a := (i : Int)) (b := (l.length : Int)) rfl (hf.get 9 3 rfl) (hf.get 8 2 rfl)) ?_
  refine rw_nil ?_
  refine cw_seq ?_
  refine cw_cond (b := (decide ((i : Int) < (l.length : Int)))) rfl (fun hlt => ?_) (fun hlt => ?_)
  · skip
    have hlt1 : i < l.length := by have h := of_decide_eq_true hlt; omega
    obtain ⟨k_1, rfl⟩ : ∃ k2, k_ = k2 + 1 := ⟨k_ - 1, by omega⟩
    obtain ⟨y, hb, hL1⟩ := forX_go hL
    unfold F_spec_l1Has_l1 at hb
    refine cw_skip ?_
    refine cw_seq ?_
    refine cw_block ?_
    refine cw_seq ?_
    refine cw_region ?_
    obtain ⟨x, hx, hb⟩ := bind_inv hb
    refine sq 11 rfl rfl (Y_index (B := B) (m := l.length) (c := c) (k := .i64) (i := (i : Int)) k_sl_102_3 k_sz_3_1 rfl (hf.get 7 1 rfl) (hf.get 9 3 rfl) (gi_isSome encI_len rfl (hS1.rf (i := 0) rfl) hx) (getI_nn hx) (getI_ltI hx rfl)) ?_
    refine sq 12 rfl rfl (Y_load1 (B := B) (i := (i : Int).toNat * 1) (cs := (l.flatMap encI)) (v := vi x) k_sc_3 rfl rfl (hS1.rf (i := 0) rfl) (gi_at0 encI_len hx rfl)) ?_
    refine sq 6 rfl rfl (Y_assign (v := vi x) rfl rfl) ?_
    refine rw_nil ?_
    refine cw_seq ?_
    refine cw_region ?_
    refine sq 13 rfl rfl (Y_move (v := vi x) rfl rfl) ?_
    refine sq 14 rfl rfl (Y_move (v := vi n1) rfl (hf.get 1 0 rfl)) ?_
    refine sq 15 rfl rfl (Y_eq (k := .i64) (a := x) (b := n1) rfl rfl rfl) ?_
    refine rw_nil ?_
    refine cw_cond (b := (x == n1)) rfl (fun hb1 => ?_) (fun hb1 => ?_)
    · skip
      have hF2 := ct hb hb1
      refine cw_seq ?_
      refine cw_region ?_
      refine sq 4 rfl rfl (Y_assign (v := .bool true) rfl rfl) ?_
      refine rw_nil ?_
      refine cw_ret ?_
      obtain rfl := some_inj hF2
      obtain rfl := some_inj hL1
      obtain rfl := some_inj hF1
      exact ret1 Tryd.results99 (v1 := .bool true) (resAt_tmp rfl) ⟨rfl, (ST.subR (R' := []) (hS1.sel [] rfl rfl) (fun _ h => by cases h))⟩
    · skip
      have hF3 := cf' hb hb1
      refine cw_skip ?_
      refine cw_region ?_
      refine sq 16 rfl rfl (Y_add (k := .i64) (a := (i : Int)) (b := 1) rfl (hf.get 9 3 rfl) rfl) ?_
      refine sq 9 rfl rfl (Y_move (v := vi (i64.wrap ((i : Int) + 1))) rfl rfl) ?_
      refine rw_nil ?_
      obtain rfl := some_inj hF3
      exact ⟨k_1, Nat.lt_succ_self _, i + 1, (FF.cons (hf.get 1 0 rfl) (FF.cons (hf.get 7 1 rfl) (FF.cons (hf.get 8 2 rfl) (FF.cons (congrArg (Value.int .i64) (wr_succ hlt1 hN)) FF.nil)))), (hS1.sel [] rfl rfl), (by omega), hL1⟩
  · skip
    obtain rfl : k_ = 0 := by have h := of_decide_eq_false hlt; omega
    refine cw_exit rfl ?_
    obtain rfl := some_inj hL
    refine cw_seq ?_
    refine cw_region ?_
    refine sq 4 rfl rfl (Y_assign (v := .bool false) rfl rfl) ?_
    refine rw_nil ?_
    refine cw_ret ?_
    obtain rfl := some_inj hF1
    exact ret1 Tryd.results99 (v1 := .bool false) (resAt_tmp rfl) ⟨rfl, (ST.subR (R' := []) (hS1.sel [] rfl rfl) (fun _ h => by cases h))⟩

theorem c_spec_l3Dim (n : Int)  (w0 : World)  (hS : ST w0 [] w0 [] []) {r_ : Bool} (hF : F_spec_l3Dim n = some r_) :
    CV Tryd.prog 79 #[vi n] w0 (fun v w' => v = .bool r_ ∧ ST w0 [] w' [] []) := by
  unfold F_spec_l3Dim at hF
  refine cv_of_cw 6 Tryd.func79 rfl Tryd.ntmps79 rfl ?_
  refine cw_seq ?_
  refine cw_region ?_
  refine sq 2 rfl rfl (Y_assign (v := .bool false) rfl rfl) ?_
  refine rw_nil ?_
  refine cw_seq ?_
  refine cw_region ?_
  refine ss 3 rfl rfl (Ys_bslice (s := 1) (len := 6) (vs := [(0, vi 1), (1, vi 2), (2, vi 4), (3, vi 8), (4, vi 16), (5, vi 32)]) (cs := [vi 1, vi 2, vi 4, vi 8, vi 16, vi 32]) (zs := [vi 0, vi 0, vi 0, vi 0, vi 0, vi 0]) (m := 6) hS k_sl_102_3 k_sz_3_1 k_zc_3 rfl (mpc rfl (mpc rfl (mpc rfl (mpc rfl (mpc rfl (mpc rfl mpn)))))) rfl rfl rfl (by kernel_rfl) (by kernel_rfl) rfl) ?_
  rintro _ w_ ⟨b, rfl, hS1⟩
  refine sq 4 rfl rfl (Y_move (v := vi n) rfl rfl) ?_
  obtain ⟨r_1, hc, hF⟩ := bind_inv hF
  refine sc 5 rfl rfl (Yc_func (g := 99) (vs := [.slice (some ⟨b, 0, none⟩) 6 6, vi n]) k_call_99 rfl (mc rfl (mc rfl mn)) (c_spec_l1Has [1, 2, 4, 8, 16, 32] n (some ⟨b, 0, none⟩) 6 6 _ rfl (hS1.inn0 [(false, 0)] rfl) hc)) ?_
  rintro _ w_1 ⟨rfl, hd⟩
  have hS2 := hS1.out00 hd
  refine sq 2 rfl rfl (Y_assign (v := .bool r_1) rfl rfl) ?_
  refine rw_nil ?_
  refine cw_ret ?_
  obtain rfl := some_inj hF
  exact ret1 Tryd.results79 (v1 := .bool r_1) (resAt_tmp rfl) ⟨rfl, (ST.subR (R' := []) (hS2.sel [] rfl rfl) (fun _ h => by cases h))⟩

theorem c_spec_l2Good (x : TDyadic)  (w0 : World)  (hS : ST w0 [] w0 [] []) {r_ : Bool} (hF : F_spec_l2Good x = some r_) :
    CV Tryd.prog 80 #[.agg #[vi x.Num.A, vi x.Num.B, vi x.Num.C, vi x.Num.D, vi x.Exp]] w0 (fun v w' => v = .bool r_ ∧ ST w0 [] w' [] []) := by
  unfold F_spec_l2Good at hF
  refine cv_of_cw 22 Tryd.func80 rfl Tryd.ntmps80 rfl ?_
  refine cw_seq ?_
  refine cw_region ?_
  refine ss 1 rfl rfl (Ys_box (T := 49) (v := .agg #[vi x.Num.A, vi x.Num.B, vi x.Num.C, vi x.Num.D, vi x.Exp]) (cs := [vi x.Num.A, vi x.Num.B, vi x.Num.C, vi x.Num.D, vi x.Exp]) (m := 5) hS rfl rfl rfl rfl) ?_
  rintro _ w_ ⟨b, rfl, hS1⟩
  refine sq 2 rfl rfl (Y_assign (v := .bool false) rfl rfl) ?_
  refine rw_nil ?_
  refine cw_seq ?_
  refine cw_region ?_
  refine sq 3 rfl rfl (Y_fieldAddr (B := some ⟨b, 0, none⟩) (i := 0) (s := 3) k_fd_49_0_0_47 k_sz_47_4 rfl rfl) ?_
  refine sq 4 rfl rfl (Y_loadA (B := some ⟨b, 0, none⟩) (i := 0) (cs := [vi x.Num.A, vi x.Num.B, vi x.Num.C, vi x.Num.D, vi x.Exp]) (vs := [vi x.Num.A, vi x.Num.B, vi x.Num.C, vi x.Num.D]) k_ag_47 k_sz_47_4 rfl rfl (hS1.cf (i := 0) rfl) rfl rfl) ?_
  obtain ⟨r_1, hc, hF⟩ := bind_inv hF
  refine sc 5 rfl rfl (Yc_func (g := 84) (vs := [.agg #[vi x.Num.A, vi x.Num.B, vi x.Num.C, vi x.Num.D]]) k_call_84 rfl (mc rfl mn) (c_spec_l1Good x.Num _  (hS1.inn0 [] rfl) hc)) ?_
  rintro _ w_1 ⟨rfl, hd⟩
  have hS2 := hS1.out00 hd
  refine sq 6 rfl rfl (Y_move (v := .bool r_1) rfl rfl) ?_
  refine sgq 7 (B := r_1) (v := pt (some ⟨b, 0, none⟩) 4) rfl rfl (wt_t (gd_of (t := 6) (by kernel_rfl) rfl)) (fun hg => (Y_fieldAddr (B := some ⟨b, 0, none⟩) (i := 0) (s := 0) k_fd_49_1_4_3 k_sz_3_1 rfl rfl)) ?_
  refine sgq 8 (B := r_1) (v := vi x.Exp) rfl rfl (wt_t (gd_of (t := 6) (by kernel_rfl) rfl)) (fun hg1 => (Y_load1 (B := some ⟨b, 0, none⟩) (i := 4) (cs := [vi x.Num.A, vi x.Num.B, vi x.Num.C, vi x.Num.D, vi x.Exp]) (v := vi x.Exp) k_sc_3 rfl (gv_of (B := r_1) (v := pt (some ⟨b, 0, none⟩) 4) hg1) (hS2.cf (i := 0) rfl) rfl)) ?_
  obtain ⟨r_2, hc1, hF⟩ := bind_inv hF
  refine sgc 9 (B := r_1) (v := .bool r_2) (F := hS2.fn) rfl rfl (wt_t (gd_of (t := 6) (by kernel_rfl) rfl)) hS2 (fun hg2 => (Yc_func (g := 100) (vs := [vi x.Exp, vi 0, vi 60]) k_call_100 rfl (mc (gv_of (B := r_1) (v := vi x.Exp) hg2) (mc rfl (mc rfl mn))) (CV.mono (c_spec_l1In x.Exp 0 60 _  (hS2.inn0 [] rfl) (gb_inv hc1 hg2)) (by rintro _ _ ⟨rfl, h⟩; exact ⟨rfl, hS2.out00 h⟩)))) ?_
  rintro w_2 hS3
  have hS3 : ST _ _ w_2 _ _ := hS3
  refine sq 10 rfl rfl (Y_and (b := r_1) (z := r_2) rfl rfl rfl rfl) ?_
  refine sq 11 rfl rfl (Y_move (v := .bool (r_1 && r_2)) rfl rfl) ?_
  refine sgq 12 (B := (r_1 && r_2)) (v := pt (some ⟨b, 0, none⟩) 4) rfl rfl (wt_t (gd_of (t := 11) (by kernel_rfl) rfl)) (fun hg3 => (Y_fieldAddr (B := some ⟨b, 0, none⟩) (i := 0) (s := 0) k_fd_49_1_4_3 k_sz_3_1 rfl rfl)) ?_
  refine sgq 13 (B := (r_1 && r_2)) (v := vi x.Exp) rfl rfl (wt_t (gd_of (t := 11) (by kernel_rfl) rfl)) (fun hg4 => (Y_load1 (B := some ⟨b, 0, none⟩) (i := 4) (cs := [vi x.Num.A, vi x.Num.B, vi x.Num.C, vi x.Num.D, vi x.Exp]) (v := vi x.Exp) k_sc_3 rfl (gv_of (B := (r_1 && r_2)) (v := pt (some ⟨b, 0, none⟩) 4) hg4) (hS3.cf (i := 0) rfl) rfl)) ?_
  refine sgq 14 (B := (r_1 && r_2)) (v := .bool (x.Exp == 0)) rfl rfl (wt_t (gd_of (t := 11) (by kernel_rfl) rfl)) (fun hg5 => (Y_eq (k := .i64) (a := x.Exp) (b := 0) rfl (gv_of (B := (r_1 && r_2)) (v := vi x.Exp) hg5) rfl)) ?_
  refine sgq 15 (B := (r_1 && r_2)) (v := .bool (x.Exp == 0)) rfl rfl (wt_t (gd_of (t := 11) (by kernel_rfl) rfl)) (fun hg6 => (Y_move (v := .bool (x.Exp == 0)) rfl (gv_of (B := (r_1 && r_2)) (v := .bool (x.Exp == 0)) hg6))) ?_
  refine sgq 16 (B := ((r_1 && r_2) && (!(x.Exp == 0)))) (v := pt (some ⟨b, 0, none⟩) 0) rfl rfl (wt_gf (gd_of (t := 15) (by kernel_rfl) rfl)) (fun hg7 => (Y_fieldAddr (B := some ⟨b, 0, none⟩) (i := 0) (s := 3) k_fd_49_0_0_47 k_sz_47_4 rfl rfl)) ?_
  refine sgq 17 (B := ((r_1 && r_2) && (!(x.Exp == 0)))) (v := .agg #[vi x.Num.A, vi x.Num.B, vi x.Num.C, vi x.Num.D]) rfl rfl (wt_gf (gd_of (t := 15) (by kernel_rfl) rfl)) (fun hg8 => (Y_loadA (B := some ⟨b, 0, none⟩) (i := 0) (cs := [vi x.Num.A, vi x.Num.B, vi x.Num.C, vi x.Num.D, vi x.Exp]) (vs := [vi x.Num.A, vi x.Num.B, vi x.Num.C, vi x.Num.D]) k_ag_47 k_sz_47_4 rfl (gv_of (B := ((r_1 && r_2) && (!(x.Exp == 0)))) (v := pt (some ⟨b, 0, none⟩) 0) hg8) (hS3.cf (i := 0) rfl) rfl rfl)) ?_
  obtain ⟨r_3, hc2, hF⟩ := bind_inv hF
  refine sgc 18 (B := ((r_1 && r_2) && (!(x.Exp == 0)))) (v := .bool r_3) (F := hS3.fn) rfl rfl (wt_gf (gd_of (t := 15) (by kernel_rfl) rfl)) hS3 (fun hg9 => (Yc_func (g := 85) (vs := [.agg #[vi x.Num.A, vi x.Num.B, vi x.Num.C, vi x.Num.D]]) k_call_85 rfl (mc (gv_of (B := ((r_1 && r_2) && (!(x.Exp == 0)))) (v := .agg #[vi x.Num.A, vi x.Num.B, vi x.Num.C, vi x.Num.D]) hg9) mn) (CV.mono (c_spec_l1Even x.Num _  (hS3.inn0 [] rfl) (gb_inv hc2 hg9)) (by rintro _ _ ⟨rfl, h⟩; exact ⟨rfl, hS3.out00 h⟩)))) ?_
  rintro w_3 hS4
  have hS4 : ST _ _ w_3 _ _ := hS4
  refine sgq 19 (B := ((r_1 && r_2) && (!(x.Exp == 0)))) (v := .bool (!r_3)) rfl rfl (wt_gf (gd_of (t := 15) (by kernel_rfl) rfl)) (fun hg10 => (Y_not (p := r_3) rfl (gv_of (B := ((r_1 && r_2) && (!(x.Exp == 0)))) (v := .bool r_3) hg10))) ?_
  refine sgq 20 (B := (r_1 && r_2)) (v := .bool ((x.Exp == 0) || (!r_3))) rfl rfl (wt_t (gd_of (t := 11) (by kernel_rfl) rfl)) (fun hg11 => (Y_or (b := (x.Exp == 0)) (z := (!r_3)) rfl (gv_of (B := (r_1 && r_2)) (v := .bool (x.Exp == 0)) hg11) rfl (gv_and (B := (r_1 && r_2)) (C := (!(x.Exp == 0))) (v := .bool (!r_3)) hg11))) ?_
  refine sq 21 rfl rfl (Y_and (b := (r_1 && r_2)) (z := ((x.Exp == 0) || (!r_3))) rfl rfl rfl rfl) ?_
  refine sq 2 rfl rfl (Y_assign (v := .bool ((r_1 && r_2) && ((x.Exp == 0) || (!r_3)))) rfl rfl) ?_
  refine rw_nil ?_
  refine cw_ret ?_
  obtain rfl := some_inj hF
  exact ret1 Tryd.results80 (v1 := .bool ((r_1 && r_2) && ((x.Exp == 0) || (!r_3)))) (resAt_tmp rfl) ⟨rfl, (ST.subR (R' := []) (hS4.sel [] rfl rfl) (fun _ h => by cases h))⟩

theorem c_spec_l3Good (m : TMatrix) (B : Option Addr) (c n : Nat) (w0 : World) (hn : m.Cells.length = n) (hS : ST w0 [] w0 [] [⟨B, (m.Cells.flatMap enc_Dyadic)⟩]) {r_ : Bool} (hF : F_spec_l3Good m = some r_) :
    CV Tryd.prog 47 #[.agg #[vi m.Rows, vi m.Cols, .slice B n c]] w0 (fun v w' => v = .bool r_ ∧ ST w0 [] w' [] []) := by
  subst hn
  unfold F_spec_l3Good at hF
  refine cv_of_cw 37 Tryd.func47 rfl Tryd.ntmps47 rfl ?_
  refine cw_seq ?_
  refine cw_region ?_
  refine ss 1 rfl rfl (Ys_box (T := 32) (v := .agg #[vi m.Rows, vi m.Cols, .slice B m.Cells.length c]) (cs := [vi m.Rows, vi m.Cols, .slice B m.Cells.length c]) (m := 3) hS rfl rfl rfl rfl) ?_
  rintro _ w_ ⟨b, rfl, hS1⟩
  refine sq 2 rfl rfl (Y_assign (v := .bool false) rfl rfl) ?_
  refine rw_nil ?_
  refine cw_seq ?_
  refine cw_seq ?_
  refine cw_region ?_
  refine sq 5 rfl rfl (Y_fieldAddr (B := some ⟨b, 0, none⟩) (i := 0) (s := 0) k_fd_32_0_0_3 k_sz_3_1 rfl rfl) ?_
  refine sq 6 rfl rfl (Y_load1 (B := some ⟨b, 0, none⟩) (i := 0) (cs := [vi m.Rows, vi m.Cols, .slice B m.Cells.length c]) (v := vi m.Rows) k_sc_3 rfl rfl (hS1.cf (i := 0) rfl) rfl) ?_
  obtain ⟨r_1, hc, hF⟩ := bind_inv hF
  refine sc 7 rfl rfl (Yc_func (g := 79) (vs := [vi m.Rows]) k_call_79 rfl (mc rfl mn) (c_spec_l3Dim m.Rows _  (hS1.inn0 [] rfl) hc)) ?_
  rintro _ w_1 ⟨rfl, hd⟩
  have hS2 := hS1.out00 hd
  refine sq 8 rfl rfl (Y_not (p := r_1) rfl rfl) ?_
  refine sq 9 rfl rfl (Y_move (v := .bool (!r_1)) rfl rfl) ?_
  refine sgq 10 (B := (!(!r_1))) (v := pt (some ⟨b, 0, none⟩) 1) rfl rfl (wt_f (gd_of (t := 9) (by kernel_rfl) rfl)) (fun hg => (Y_fieldAddr (B := some ⟨b, 0, none⟩) (i := 0) (s := 0) k_fd_32_1_1_3 k_sz_3_1 rfl rfl)) ?_
  refine sgq 11 (B := (!(!r_1))) (v := vi m.Cols) rfl rfl (wt_f (gd_of (t := 9) (by kernel_rfl) rfl)) (fun hg1 => (Y_load1 (B := some ⟨b, 0, none⟩) (i := 1) (cs := [vi m.Rows, vi m.Cols, .slice B m.Cells.length c]) (v := vi m.Cols) k_sc_3 rfl (gv_of (B := (!(!r_1))) (v := pt (some ⟨b, 0, none⟩) 1) hg1) (hS2.cf (i := 0) rfl) rfl)) ?_
  obtain ⟨r_2, hc1, hF⟩ := bind_inv hF
  refine sgc 12 (B := (!(!r_1))) (v := .bool r_2) (F := hS2.fn) rfl rfl (wt_f (gd_of (t := 9) (by kernel_rfl) rfl)) hS2 (fun hg2 => (Yc_func (g := 79) (vs := [vi m.Cols]) k_call_79 rfl (mc (gv_of (B := (!(!r_1))) (v := vi m.Cols) hg2) mn) (CV.mono (c_spec_l3Dim m.Cols _  (hS2.inn0 [] rfl) (gb_inv hc1 hg2)) (by rintro _ _ ⟨rfl, h⟩; exact ⟨rfl, hS2.out00 h⟩)))) ?_
  rintro w_2 hS3
  have hS3 : ST _ _ w_2 _ _ := hS3
  refine sgq 13 (B := (!(!r_1))) (v := .bool (!r_2)) rfl rfl (wt_f (gd_of (t := 9) (by kernel_rfl) rfl)) (fun hg3 => (Y_not (p := r_2) rfl (gv_of (B := (!(!r_1))) (v := .bool r_2) hg3))) ?_
  refine sq 14 rfl rfl (Y_or (b := (!r_1)) (z := (!r_2)) rfl rfl rfl rfl) ?_
  refine sq 15 rfl rfl (Y_move (v := .bool ((!r_1) || (!r_2))) rfl rfl) ?_
  refine sgq 16 (B := (!((!r_1) || (!r_2)))) (v := pt (some ⟨b, 0, none⟩) 2) rfl rfl (wt_f (gd_of (t := 15) (by kernel_rfl) rfl)) (fun hg4 => (Y_fieldAddr (B := some ⟨b, 0, none⟩) (i := 0) (s := 0) k_fd_32_2_2_26 k_sz_26_1 rfl rfl)) ?_
  refine sgq 17 (B := (!((!r_1) || (!r_2)))) (v := .slice B m.Cells.length c) rfl rfl (wt_f (gd_of (t := 15) (by kernel_rfl) rfl)) (fun hg5 => (Y_load1 (B := some ⟨b, 0, none⟩) (i := 2) (cs := [vi m.Rows, vi m.Cols, .slice B m.Cells.length c]) (v := .slice B m.Cells.length c) k_sc_26 rfl (gv_of (B := (!((!r_1) || (!r_2)))) (v := pt (some ⟨b, 0, none⟩) 2) hg5) (hS3.cf (i := 0) rfl) rfl)) ?_
  refine sgq 18 (B := (!((!r_1) || (!r_2)))) (v := vi (m.Cells.length : Int)) rfl rfl (wt_f (gd_of (t := 15) (by kernel_rfl) rfl)) (fun hg6 => (Y_len (B := B) (m := m.Cells.length) (c := c) k_sl_26_49 rfl (gv_of (B := (!((!r_1) || (!r_2)))) (v := .slice B m.Cells.length c) hg6))) ?_
  refine sgq 19 (B := (!((!r_1) || (!r_2)))) (v := pt (some ⟨b, 0, none⟩) 0) rfl rfl (wt_f (gd_of (t := 15) (by kernel_rfl) rfl)) (fun hg7 => (Y_fieldAddr (B := some ⟨b, 0, none⟩) (i := 0) (s := 0) k_fd_32_0_0_3 k_sz_3_1 rfl rfl)) ?_
  refine sgq 20 (B := (!((!r_1) || (!r_2)))) (v := vi m.Rows) rfl rfl (wt_f (gd_of (t := 15) (by kernel_rfl) rfl)) (fun hg8 => (Y_load1 (B := some ⟨b, 0, none⟩) (i := 0) (cs := [vi m.Rows, vi m.Cols, .slice B m.Cells.length c]) (v := vi m.Rows) k_sc_3 rfl (gv_of (B := (!((!r_1) || (!r_2)))) (v := pt (some ⟨b, 0, none⟩) 0) hg8) (hS3.cf (i := 0) rfl) rfl)) ?_
  refine sgq 21 (B := (!((!r_1) || (!r_2)))) (v := pt (some ⟨b, 0, none⟩) 1) rfl rfl (wt_f (gd_of (t := 15) (by kernel_rfl) rfl)) (fun hg9 => (Y_fieldAddr (B := some ⟨b, 0, none⟩) (i := 0) (s := 0) k_fd_32_1_1_3 k_sz_3_1 rfl rfl)) ?_
  refine sgq 22 (B := (!((!r_1) || (!r_2)))) (v := vi m.Cols) rfl rfl (wt_f (gd_of (t := 15) (by kernel_rfl) rfl)) (fun hg10 => (Y_load1 (B := some ⟨b, 0, none⟩) (i := 1) (cs := [vi m.Rows, vi m.Cols, .slice B m.Cells.length c]) (v := vi m.Cols) k_sc_3 rfl (gv_of (B := (!((!r_1) || (!r_2)))) (v := pt (some ⟨b, 0, none⟩) 1) hg10) (hS3.cf (i := 0) rfl) rfl)) ?_
  refine sgq 23 (B := (!((!r_1) || (!r_2)))) (v := vi (i64.wrap (m.Rows * m.Cols))) rfl rfl (wt_f (gd_of (t := 15) (by kernel_rfl) rfl)) (fun hg11 => (Y_mul (k := .i64) (a := m.Rows) (b := m.Cols) rfl (gv_of (B := (!((!r_1) || (!r_2)))) (v := vi m.Rows) hg11) (gv_of (B := (!((!r_1) || (!r_2)))) (v := vi m.Cols) hg11))) ?_
  refine sgq 24 (B := (!((!r_1) || (!r_2)))) (v := .bool ((m.Cells.length : Int) != (i64.wrap (m.Rows * m.Cols)))) rfl rfl (wt_f (gd_of (t := 15) (by kernel_rfl) rfl)) (fun hg12 => (Y_ne (k := .i64) (a := (m.Cells.length : Int)) (b := (i64.wrap (m.Rows * m.Cols))) rfl (gv_of (B := (!((!r_1) || (!r_2)))) (v := vi (m.Cells.length : Int)) hg12) (gv_of (B := (!((!r_1) || (!r_2)))) (v := vi (i64.wrap (m.Rows * m.Cols))) hg12))) ?_
  refine sq 25 rfl rfl (Y_or (b := ((!r_1) || (!r_2))) (z := ((m.Cells.length : Int) != (i64.wrap (m.Rows * m.Cols)))) rfl rfl rfl rfl) ?_
  refine rw_nil ?_
  refine cw_cond (b := (((!r_1) || (!r_2)) || ((m.Cells.length : Int) != (i64.wrap (m.Rows * m.Cols))))) rfl (fun hb => ?_) (fun hb => ?_)
  · skip
    have hF1 := ct hF hb
    refine cw_seq ?_
    refine cw_region ?_
    refine sq 2 rfl rfl (Y_assign (v := .bool false) rfl rfl) ?_
    refine rw_nil ?_
    refine cw_ret ?_
    obtain rfl := some_inj hF1
    exact ret1 Tryd.results47 (v1 := .bool false) (resAt_tmp rfl) ⟨rfl, (ST.subR (R' := []) (hS3.sel [] rfl rfl) (fun _ h => by cases h))⟩
  · skip
    have hF2 := cf' hF hb
    refine cw_skip ?_
    refine cw_seq ?_
    refine cw_seq ?_
    refine cw_region ?_
    refine sq 26 rfl rfl (Y_fieldAddr (B := some ⟨b, 0, none⟩) (i := 0) (s := 0) k_fd_32_2_2_26 k_sz_26_1 rfl rfl) ?_
    refine sq 27 rfl rfl (Y_load1 (B := some ⟨b, 0, none⟩) (i := 2) (cs := [vi m.Rows, vi m.Cols, .slice B m.Cells.length c]) (v := .slice B m.Cells.length c) k_sc_26 rfl rfl (hS3.cf (i := 0) rfl) rfl) ?_
    refine sq 28 rfl rfl (Y_len (B := B) (m := m.Cells.length) (c := c) k_sl_26_49 rfl rfl) ?_
    refine sq 29 rfl rfl (Y_move (v := vi 0) rfl rfl) ?_
    refine rw_nil ?_
    obtain ⟨hN, hF2⟩ := chk_inv hF2
    obtain ⟨z, hz, hF3⟩ := bind_inv hF2
    refine cw_block ?_
    refine cw_loop (fun k f w => ∃ (i : Nat), FF f [(27, .slice B m.Cells.length c), (28, vi (m.Cells.length : Int)), (29, vi (i : Int))] ∧ ST w0 [] w [] [⟨B, (m.Cells.flatMap enc_Dyadic)⟩] ∧ i + k = m.Cells.length ∧ forX (F_spec_l3Good_l1 m) k i () = some z) m.Cells.length ⟨0, (FF.cons rfl (FF.cons rfl (FF.cons rfl FF.nil))), (hS3.sel [] rfl rfl), Nat.zero_add _, hz⟩ ?_
    rintro k_ f w ⟨i, hf, hS4, hik, hL⟩
    refine cw_seq ?_
    refine cw_region ?_
    refine sq 30 rfl rfl (Y_lt (k := .i64) (a := (i : Int)) (b := (m.Cells.length : Int)) rfl (hf.get 29 2 rfl) (hf.get 28 1 rfl)) ?_
    refine rw_nil ?_
    refine cw_seq ?_
    refine cw_cond (b := (decide ((i : Int) < (m.Cells.length : Int)))) rfl (fun hlt => ?_) (fun hlt => ?_)
    · skip
      have hlt1 : i < m.Cells.length := by have h := of_decide_eq_true hlt; omega
      obtain ⟨k_1, rfl⟩ : ∃ k2, k_ = k2 + 1 := ⟨k_ - 1, by omega⟩
      obtain ⟨y, hb1, hL1⟩ := forX_go hL
      unfold F_spec_l3Good_l1 at hb1
      refine cw_skip ?_
      refine cw_seq ?_
      refine cw_block ?_
      refine cw_seq ?_
      refine cw_region ?_
      obtain ⟨x, hx, hb1⟩ := bind_inv hb1
      refine sq 31 rfl rfl (Y_index (B := B) (m := m.Cells.length) (c := c) (k := .i64) (i := (i : Int)) k_sl_26_49 k_sz_49_5 rfl (hf.get 27 0 rfl) (hf.get 29 2 rfl) (gi_isSome enc_Dyadic_len rfl (hS4.rf (i := 0) rfl) hx) (getI_nn hx) (getI_ltI hx rfl)) ?_
      refine sq 32 rfl rfl (Y_loadA (B := B) (i := (i : Int).toNat * 5) (cs := (m.Cells.flatMap enc_Dyadic)) (vs := [vi x.Num.A, vi x.Num.B, vi x.Num.C, vi x.Num.D, vi x.Exp]) k_ag_49 k_sz_49_5 rfl rfl (hS4.rf (i := 0) rfl) (enc_Dyadic_len x) (gi_seg enc_Dyadic_len hx)) ?_
      refine ss 4 rfl rfl (Ys_alloc (T := 49) (cs := [vi 0, vi 0, vi 0, vi 0, vi 0]) (m := 5) hS4 k_zero_49 rfl rfl rfl) ?_
      rintro _ w_3 ⟨b1, rfl, hS5⟩
      refine ss0 rfl rfl (Ys_store (i := 0) (s := 5) (B := some ⟨b1, 0, none⟩) (T' := 49) (v := .agg #[vi x.Num.A, vi x.Num.B, vi x.Num.C, vi x.Num.D, vi x.Exp]) (vs := [vi x.Num.A, vi x.Num.B, vi x.Num.C, vi x.Num.D, vi x.Exp]) (k := 0) (cs' := [vi x.Num.A, vi x.Num.B, vi x.Num.C, vi x.Num.D, vi x.Exp]) hS5 k_sz_49_5 rfl rfl rfl rfl rfl rfl rfl (Nat.le_of_ble_eq_true rfl) rfl rfl) ?_
      rintro _ w_4 ⟨rfl, hS6⟩
      refine rw_nil ?_
      refine cw_seq ?_
      refine cw_region ?_
      refine sq 33 rfl rfl (Y_loadA (B := some ⟨b1, 0, none⟩) (i := 0) (cs := [vi x.Num.A, vi x.Num.B, vi x.Num.C, vi x.Num.D, vi x.Exp]) (vs := [vi x.Num.A, vi x.Num.B, vi x.Num.C, vi x.Num.D, vi x.Exp]) k_ag_49 k_sz_49_5 rfl rfl (hS6.cf (i := 0) rfl) rfl rfl) ?_
      obtain ⟨r_3, hc2, hb1⟩ := bind_inv hb1
      refine sc 34 rfl rfl (Yc_func (g := 80) (vs := [.agg #[vi x.Num.A, vi x.Num.B, vi x.Num.C, vi x.Num.D, vi x.Exp]]) k_call_80 rfl (mc rfl mn) (c_spec_l2Good x _  (hS6.inn0 [] rfl) hc2)) ?_
      rintro _ w_5 ⟨rfl, hd1⟩
      have hS7 := hS6.out00 hd1
      refine sq 35 rfl rfl (Y_not (p := r_3) rfl rfl) ?_
      refine rw_nil ?_
      refine cw_cond (b := (!r_3)) rfl (fun hb2 => ?_) (fun hb2 => ?_)
      · skip
        have hF4 := ct hb1 hb2
        refine cw_seq ?_
        refine cw_region ?_
        refine sq 2 rfl rfl (Y_assign (v := .bool false) rfl rfl) ?_
        refine rw_nil ?_
        refine cw_ret ?_
        obtain rfl := some_inj hF4
        obtain rfl := some_inj hL1
        obtain rfl := some_inj hF3
        exact ret1 Tryd.results47 (v1 := .bool false) (resAt_tmp rfl) ⟨rfl, (ST.subR (R' := []) (hS7.sel [] rfl rfl) (fun _ h => by cases h))⟩
      · skip
        have hF5 := cf' hb1 hb2
        refine cw_skip ?_
        refine cw_region ?_
        refine sq 36 rfl rfl (Y_add (k := .i64) (a := (i : Int)) (b := 1) rfl (hf.get 29 2 rfl) rfl) ?_
        refine sq 29 rfl rfl (Y_move (v := vi (i64.wrap ((i : Int) + 1))) rfl rfl) ?_
        refine rw_nil ?_
        obtain rfl := some_inj hF5
        exact ⟨k_1, Nat.lt_succ_self _, i + 1, (FF.cons (hf.get 27 0 rfl) (FF.cons (hf.get 28 1 rfl) (FF.cons (congrArg (Value.int .i64) (wr_succ hlt1 hN)) FF.nil))), (hS7.sel [] rfl rfl), (by omega), hL1⟩
    · skip
      obtain rfl : k_ = 0 := by have h := of_decide_eq_false hlt; omega
      refine cw_exit rfl ?_
      obtain rfl := some_inj hL
      refine cw_seq ?_
      refine cw_region ?_
      refine sq 2 rfl rfl (Y_assign (v := .bool true) rfl rfl) ?_
      refine rw_nil ?_
      refine cw_ret ?_
      obtain rfl := some_inj hF3
      exact ret1 Tryd.results47 (v1 := .bool true) (resAt_tmp rfl) ⟨rfl, (ST.subR (R' := []) (hS4.sel [] rfl rfl) (fun _ h => by cases h))⟩

theorem c_spec_EqualMatrices (a : TMatrix) (b : TMatrix) (B : Option Addr) (c n : Nat) (B1 : Option Addr) (c1 n1 : Nat) (w0 : World) (hn : a.Cells.length = n) (hn1 : b.Cells.length = n1) (hS : ST w0 [] w0 [] [⟨B, (a.Cells.flatMap enc_Dyadic)⟩, ⟨B1, (b.Cells.flatMap enc_Dyadic)⟩]) {r_ : Bool} (hF : F_spec_EqualMatrices a b = some r_) :
    CV Tryd.prog 48 #[.agg #[vi a.Rows, vi a.Cols, .slice B n c], .agg #[vi b.Rows, vi b.Cols, .slice B1 n1 c1]] w0 (fun v w' => v = .bool r_ ∧ ST w0 [] w' [] []) := by
  subst hn
  subst hn1
  unfold F_spec_EqualMatrices at hF
  refine cv_of_cw 45 Tryd.func48 rfl Tryd.ntmps48 rfl ?_
  refine cw_seq ?_
  refine cw_region ?_
  refine ss 2 rfl rfl (Ys_box (T := 32) (v := .agg #[vi a.Rows, vi a.Cols, .slice B a.Cells.length c]) (cs := [vi a.Rows, vi a.Cols, .slice B a.Cells.length c]) (m := 3) hS rfl rfl rfl rfl) ?_
  rintro _ w_ ⟨b1, rfl, hS1⟩
  refine ss 3 rfl rfl (Ys_box (T := 32) (v := .agg #[vi b.Rows, vi b.Cols, .slice B1 b.Cells.length c1]) (cs := [vi b.Rows, vi b.Cols, .slice B1 b.Cells.length c1]) (m := 3) hS1 rfl rfl rfl rfl) ?_
  rintro _ w_1 ⟨b2, rfl, hS2⟩
  have hS2 : ST w0 [] _ [⟨some ⟨b1, 0, none⟩, 32, [vi a.Rows, vi a.Cols, .slice B a.Cells.length c], 3⟩, ⟨some ⟨b2, 0, none⟩, 32, [vi b.Rows, vi b.Cols, .slice B1 b.Cells.length c1], 3⟩] [⟨B, (a.Cells.flatMap enc_Dyadic)⟩, ⟨B1, (b.Cells.flatMap enc_Dyadic)⟩] := hS2
  refine sq 4 rfl rfl (Y_assign (v := .bool false) rfl rfl) ?_
  refine rw_nil ?_
  refine cw_seq ?_
  refine cw_seq ?_
  refine cw_region ?_
  refine sq 6 rfl rfl (Y_fieldAddr (B := some ⟨b1, 0, none⟩) (i := 0) (s := 0) k_fd_32_0_0_3 k_sz_3_1 rfl rfl) ?_
  refine sq 7 rfl rfl (Y_load1 (B := some ⟨b1, 0, none⟩) (i := 0) (cs := [vi a.Rows, vi a.Cols, .slice B a.Cells.length c]) (v := vi a.Rows) k_sc_3 rfl rfl (hS2.cf (i := 0) rfl) rfl) ?_
  refine sq 8 rfl rfl (Y_fieldAddr (B := some ⟨b2, 0, none⟩) (i := 0) (s := 0) k_fd_32_0_0_3 k_sz_3_1 rfl rfl) ?_
  refine sq 9 rfl rfl (Y_load1 (B := some ⟨b2, 0, none⟩) (i := 0) (cs := [vi b.Rows, vi b.Cols, .slice B1 b.Cells.length c1]) (v := vi b.Rows) k_sc_3 rfl rfl (hS2.cf (i := 1) rfl) rfl) ?_
  refine sq 10 rfl rfl (Y_ne (k := .i64) (a := a.Rows) (b := b.Rows) rfl rfl rfl) ?_
  refine sq 11 rfl rfl (Y_move (v := .bool (a.Rows != b.Rows)) rfl rfl) ?_
  refine sgq 12 (B := (!(a.Rows != b.Rows))) (v := pt (some ⟨b1, 0, none⟩) 1) rfl rfl (wt_f (gd_of (t := 11) (by kernel_rfl) rfl)) (fun hg => (Y_fieldAddr (B := some ⟨b1, 0, none⟩) (i := 0) (s := 0) k_fd_32_1_1_3 k_sz_3_1 rfl rfl)) ?_
  refine sgq 13 (B := (!(a.Rows != b.Rows))) (v := vi a.Cols) rfl rfl (wt_f (gd_of (t := 11) (by kernel_rfl) rfl)) (fun hg1 => (Y_load1 (B := some ⟨b1, 0, none⟩) (i := 1) (cs := [vi a.Rows, vi a.Cols, .slice B a.Cells.length c]) (v := vi a.Cols) k_sc_3 rfl (gv_of (B := (!(a.Rows != b.Rows))) (v := pt (some ⟨b1, 0, none⟩) 1) hg1) (hS2.cf (i := 0) rfl) rfl)) ?_
  refine sgq 14 (B := (!(a.Rows != b.Rows))) (v := pt (some ⟨b2, 0, none⟩) 1) rfl rfl (wt_f (gd_of (t := 11) (by kernel_rfl) rfl)) (fun hg2 => (Y_fieldAddr (B := some ⟨b2, 0, none⟩) (i := 0) (s := 0) k_fd_32_1_1_3 k_sz_3_1 rfl rfl)) ?_
  refine sgq 15 (B := (!(a.Rows != b.Rows))) (v := vi b.Cols) rfl rfl (wt_f (gd_of (t := 11) (by kernel_rfl) rfl)) (fun hg3 => (Y_load1 (B := some ⟨b2, 0, none⟩) (i := 1) (cs := [vi b.Rows, vi b.Cols, .slice B1 b.Cells.length c1]) (v := vi b.Cols) k_sc_3 rfl (gv_of (B := (!(a.Rows != b.Rows))) (v := pt (some ⟨b2, 0, none⟩) 1) hg3) (hS2.cf (i := 1) rfl) rfl)) ?_
  refine sgq 16 (B := (!(a.Rows != b.Rows))) (v := .bool (a.Cols != b.Cols)) rfl rfl (wt_f (gd_of (t := 11) (by kernel_rfl) rfl)) (fun hg4 => (Y_ne (k := .i64) (a := a.Cols) (b := b.Cols) rfl (gv_of (B := (!(a.Rows != b.Rows))) (v := vi a.Cols) hg4) (gv_of (B := (!(a.Rows != b.Rows))) (v := vi b.Cols) hg4))) ?_
  refine sq 17 rfl rfl (Y_or (b := (a.Rows != b.Rows)) (z := (a.Cols != b.Cols)) rfl rfl rfl rfl) ?_
  refine sq 18 rfl rfl (Y_move (v := .bool ((a.Rows != b.Rows) || (a.Cols != b.Cols))) rfl rfl) ?_
  refine sgq 19 (B := (!((a.Rows != b.Rows) || (a.Cols != b.Cols)))) (v := pt (some ⟨b1, 0, none⟩) 2) rfl rfl (wt_f (gd_of (t := 18) (by kernel_rfl) rfl)) (fun hg5 => (Y_fieldAddr (B := some ⟨b1, 0, none⟩) (i := 0) (s := 0) k_fd_32_2_2_26 k_sz_26_1 rfl rfl)) ?_
  refine sgq 20 (B := (!((a.Rows != b.Rows) || (a.Cols != b.Cols)))) (v := .slice B a.Cells.length c) rfl rfl (wt_f (gd_of (t := 18) (by kernel_rfl) rfl)) (fun hg6 => (Y_load1 (B := some ⟨b1, 0, none⟩) (i := 2) (cs := [vi a.Rows, vi a.Cols, .slice B a.Cells.length c]) (v := .slice B a.Cells.length c) k_sc_26 rfl (gv_of (B := (!((a.Rows != b.Rows) || (a.Cols != b.Cols)))) (v := pt (some ⟨b1, 0, none⟩) 2) hg6) (hS2.cf (i := 0) rfl) rfl)) ?_
  refine sgq 21 (B := (!((a.Rows != b.Rows) || (a.Cols != b.Cols)))) (v := vi (a.Cells.length : Int)) rfl rfl (wt_f (gd_of (t := 18) (by kernel_rfl) rfl)) (fun hg7 => (Y_len (B := B) (m := a.Cells.length) (c := c) k_sl_26_49 rfl (gv_of (B := (!((a.Rows != b.Rows) || (a.Cols != b.Cols)))) (v := .slice B a.Cells.length c) hg7))) ?_
  refine sgq 22 (B := (!((a.Rows != b.Rows) || (a.Cols != b.Cols)))) (v := pt (some ⟨b2, 0, none⟩) 2) rfl rfl (wt_f (gd_of (t := 18) (by kernel_rfl) rfl)) (fun hg8 => (Y_fieldAddr (B := some ⟨b2, 0, none⟩) (i := 0) (s := 0) k_fd_32_2_2_26 k_sz_26_1 rfl rfl)) ?_
  refine sgq 23 (B := (!((a.Rows != b.Rows) || (a.Cols != b.Cols)))) (v := .slice B1 b.Cells.length c1) rfl rfl (wt_f (gd_of (t := 18) (by kernel_rfl) rfl)) (fun hg9 => (Y_load1 (B := some ⟨b2, 0, none⟩) (i := 2) (cs := [vi b.Rows, vi b.Cols, .slice B1 b.Cells.length c1]) (v := .slice B1 b.Cells.length c1) k_sc_26 rfl (gv_of (B := (!((a.Rows != b.Rows) || (a.Cols != b.Cols)))) (v := pt (some ⟨b2, 0, none⟩) 2) hg9) (hS2.cf (i := 1) rfl) rfl)) ?_
  refine sgq 24 (B := (!((a.Rows != b.Rows) || (a.Cols != b.Cols)))) (v := vi (b.Cells.length : Int)) rfl rfl (wt_f (gd_of (t := 18) (by kernel_rfl) rfl)) (fun hg10 => (Y_len (B := B1) (m := b.Cells.length) (c := c1) k_sl_26_49 rfl (gv_of (B := (!((a.Rows != b.Rows) || (a.Cols != b.Cols)))) (v := .slice B1 b.Cells.length c1) hg10))) ?_
  refine sgq 25 (B := (!((a.Rows != b.Rows) || (a.Cols != b.Cols)))) (v := .bool ((a.Cells.length : Int) != (b.Cells.length : Int))) rfl rfl (wt_f (gd_of (t := 18) (by kernel_rfl) rfl)) (fun hg11 => (Y_ne (k := .i64) (a := (a.Cells.length : Int)) (b := (b.Cells.length : Int)) rfl (gv_of (B := (!((a.Rows != b.Rows) || (a.Cols != b.Cols)))) (v := vi (a.Cells.length : Int)) hg11) (gv_of (B := (!((a.Rows != b.Rows) || (a.Cols != b.Cols)))) (v := vi (b.Cells.length : Int)) hg11))) ?_
  refine sq 26 rfl rfl (Y_or (b := ((a.Rows != b.Rows) || (a.Cols != b.Cols))) (z := ((a.Cells.length : Int) != (b.Cells.length : Int))) rfl rfl rfl rfl) ?_
  refine rw_nil ?_
  refine cw_cond (b := (((a.Rows != b.Rows) || (a.Cols != b.Cols)) || ((a.Cells.length : Int) != (b.Cells.length : Int)))) rfl (fun hb => ?_) (fun hb => ?_)
  · skip
    have hF1 := ct hF hb
    refine cw_seq ?_
    refine cw_region ?_
    refine sq 4 rfl rfl (Y_assign (v := .bool false) rfl rfl) ?_
    refine rw_nil ?_
    refine cw_ret ?_
    obtain rfl := some_inj hF1
    exact ret1 Tryd.results48 (v1 := .bool false) (resAt_tmp rfl) ⟨rfl, (ST.subR (R' := []) (hS2.sel [] rfl rfl) (fun _ h => by cases h))⟩
  · skip
    have hF2 := cf' hF hb
    refine cw_skip ?_
    refine cw_seq ?_
    refine cw_seq ?_
    refine cw_region ?_
    refine sq 27 rfl rfl (Y_fieldAddr (B := some ⟨b1, 0, none⟩) (i := 0) (s := 0) k_fd_32_2_2_26 k_sz_26_1 rfl rfl) ?_
    refine sq 28 rfl rfl (Y_load1 (B := some ⟨b1, 0, none⟩) (i := 2) (cs := [vi a.Rows, vi a.Cols, .slice B a.Cells.length c]) (v := .slice B a.Cells.length c) k_sc_26 rfl rfl (hS2.cf (i := 0) rfl) rfl) ?_
    refine sq 29 rfl rfl (Y_len (B := B) (m := a.Cells.length) (c := c) k_sl_26_49 rfl rfl) ?_
    refine sq 30 rfl rfl (Y_move (v := vi 0) rfl rfl) ?_
    refine rw_nil ?_
    obtain ⟨hN, hF2⟩ := chk_inv hF2
    obtain ⟨z, hz, hF3⟩ := bind_inv hF2
    refine cw_block ?_
    refine cw_loop (fun k f w => ∃ (i : Nat), FF f [(2, pt (some ⟨b1, 0, none⟩) 0), (3, pt (some ⟨b2, 0, none⟩) 0), (29, vi (a.Cells.length : Int)), (30, vi (i : Int))] ∧ ST w0 [] w [⟨some ⟨b1, 0, none⟩, 32, [vi a.Rows, vi a.Cols, .slice B a.Cells.length c], 3⟩, ⟨some ⟨b2, 0, none⟩, 32, [vi b.Rows, vi b.Cols, .slice B1 b.Cells.length c1], 3⟩] [⟨B, (a.Cells.flatMap enc_Dyadic)⟩, ⟨B1, (b.Cells.flatMap enc_Dyadic)⟩] ∧ i + k = a.Cells.length ∧ forX (F_spec_EqualMatrices_l1 a b) k i () = some z) a.Cells.length ⟨0, (FF.cons rfl (FF.cons rfl (FF.cons rfl (FF.cons rfl FF.nil)))), (hS2.sel [0, 1] rfl rfl), Nat.zero_add _, hz⟩ ?_
    rintro k_ f w ⟨i, hf, hS3, hik, hL⟩
    refine cw_seq ?_
    refine cw_region ?_
    refine sq 31 rfl rfl (Y_lt (k := .i64) (a := (i : Int)) (b := (a.Cells.length : Int)) rfl (hf.get 30 3 rfl) (hf.get 29 2 rfl)) ?_
    refine rw_nil ?_
    refine cw_seq ?_
    refine cw_cond (b := (decide ((i : Int) < (a.Cells.length : Int)))) rfl (fun hlt => ?_) (fun hlt => ?_)
    · skip
      have hlt1 : i < a.Cells.length := by have h := of_decide_eq_true hlt; omega
      obtain ⟨k_1, rfl⟩ : ∃ k2, k_ = k2 + 1 := ⟨k_ - 1, by omega⟩
      obtain ⟨y, hb1, hL1⟩ := forX_go hL
      unfold F_spec_EqualMatrices_l1 at hb1
      refine cw_skip ?_
      refine cw_seq ?_
      refine cw_block ?_
      refine cw_seq ?_
      refine cw_region ?_
      refine sq 32 rfl rfl (Y_move (v := vi (i : Int)) rfl (hf.get 30 3 rfl)) ?_
      refine sq 5 rfl rfl (Y_assign (v := vi (i : Int)) rfl rfl) ?_
      refine rw_nil ?_
      refine cw_seq ?_
      obtain ⟨x, hx, hb1⟩ := bind_inv hb1
      obtain ⟨x1, hx1, hb1⟩ := bind_inv hb1
      refine ra_start (ST.sel hS3 [0, 1] rfl rfl).fn (by kernel_rfl) ?_
      have hS4 := hS3.drew
      refine ra_q 0 33 (v := pt (some ⟨b1, 0, none⟩) 2) rfl rfl rfl (by kernel_rfl) (by kernel_rfl) (by kernel_rfl) (ST.sel hS4 [0, 1] rfl rfl) (fun w' hw' => (Y_fieldAddr (B := some ⟨b1, 0, none⟩) (i := 0) (s := 0) k_fd_32_2_2_26 k_sz_26_1 rfl (hf.get 2 0 rfl))) ?_
      refine ra_q 1 34 (v := .slice B a.Cells.length c) rfl rfl rfl (by kernel_rfl) (by kernel_rfl) (by kernel_rfl) (ST.sel hS4 [0, 1] rfl rfl) (fun w' hw' => (Y_load1 (B := some ⟨b1, 0, none⟩) (i := 2) (cs := [vi a.Rows, vi a.Cols, .slice B a.Cells.length c]) (v := .slice B a.Cells.length c) k_sc_26 rfl rfl (ST.cf hw' (i := 0) rfl) rfl)) ?_
      refine ra_q 2 35 (v := vi (i : Int)) rfl rfl rfl (by kernel_rfl) (by kernel_rfl) (by kernel_rfl) (ST.sel hS4 [0, 1] rfl rfl) (fun w' hw' => (Y_move (v := vi (i : Int)) rfl rfl)) ?_
      refine ra_q 3 36 (v := pt B ((i : Int).toNat * 5)) rfl rfl rfl (by kernel_rfl) (by kernel_rfl) (by kernel_rfl) (ST.sel hS4 [0, 1] rfl rfl) (fun w' hw' => (Y_index (B := B) (m := a.Cells.length) (c := c) (k := .i64) (i := (i : Int)) k_sl_26_49 k_sz_49_5 rfl rfl rfl (gi_isSome enc_Dyadic_len rfl (ST.rf hw' (i := 0) rfl) hx) (getI_nn hx) (getI_ltI hx rfl))) ?_
      refine ra_q 4 37 (v := .agg #[vi x.Num.A, vi x.Num.B, vi x.Num.C, vi x.Num.D, vi x.Exp]) rfl rfl rfl (by kernel_rfl) (by kernel_rfl) (by kernel_rfl) (ST.sel hS4 [0, 1] rfl rfl) (fun w' hw' => (Y_loadA (B := B) (i := (i : Int).toNat * 5) (cs := (a.Cells.flatMap enc_Dyadic)) (vs := [vi x.Num.A, vi x.Num.B, vi x.Num.C, vi x.Num.D, vi x.Exp]) k_ag_49 k_sz_49_5 rfl rfl (ST.rf hw' (i := 0) rfl) (enc_Dyadic_len x) (gi_seg enc_Dyadic_len hx))) ?_
      refine ra_q 5 38 (v := pt (some ⟨b2, 0, none⟩) 2) rfl rfl rfl (by kernel_rfl) (by kernel_rfl) (by kernel_rfl) (ST.sel hS4 [0, 1] rfl rfl) (fun w' hw' => (Y_fieldAddr (B := some ⟨b2, 0, none⟩) (i := 0) (s := 0) k_fd_32_2_2_26 k_sz_26_1 rfl (hf.get 3 1 rfl))) ?_
      refine ra_q 6 39 (v := .slice B1 b.Cells.length c1) rfl rfl rfl (by kernel_rfl) (by kernel_rfl) (by kernel_rfl) (ST.sel hS4 [0, 1] rfl rfl) (fun w' hw' => (Y_load1 (B := some ⟨b2, 0, none⟩) (i := 2) (cs := [vi b.Rows, vi b.Cols, .slice B1 b.Cells.length c1]) (v := .slice B1 b.Cells.length c1) k_sc_26 rfl rfl (ST.cf hw' (i := 1) rfl) rfl)) ?_
      refine ra_q 7 40 (v := vi (i : Int)) rfl rfl rfl (by kernel_rfl) (by kernel_rfl) (by kernel_rfl) (ST.sel hS4 [0, 1] rfl rfl) (fun w' hw' => (Y_move (v := vi (i : Int)) rfl rfl)) ?_
      refine ra_q 8 41 (v := pt B1 ((i : Int).toNat * 5)) rfl rfl rfl (by kernel_rfl) (by kernel_rfl) (by kernel_rfl) (ST.sel hS4 [0, 1] rfl rfl) (fun w' hw' => (Y_index (B := B1) (m := b.Cells.length) (c := c1) (k := .i64) (i := (i : Int)) k_sl_26_49 k_sz_49_5 rfl rfl rfl (gi_isSome enc_Dyadic_len rfl (ST.rf hw' (i := 1) rfl) hx1) (getI_nn hx1) (getI_ltI hx1 rfl))) ?_
      refine ra_q 9 42 (v := .agg #[vi x1.Num.A, vi x1.Num.B, vi x1.Num.C, vi x1.Num.D, vi x1.Exp]) rfl rfl rfl (by kernel_rfl) (by kernel_rfl) (by kernel_rfl) (ST.sel hS4 [0, 1] rfl rfl) (fun w' hw' => (Y_loadA (B := B1) (i := (i : Int).toNat * 5) (cs := (b.Cells.flatMap enc_Dyadic)) (vs := [vi x1.Num.A, vi x1.Num.B, vi x1.Num.C, vi x1.Num.D, vi x1.Exp]) k_ag_49 k_sz_49_5 rfl rfl (ST.rf hw' (i := 1) rfl) (enc_Dyadic_len x1) (gi_seg enc_Dyadic_len hx1))) ?_
      refine ra_q 10 43 (v := .bool (!(((x.Num.A == x1.Num.A) && ((x.Num.B == x1.Num.B) && ((x.Num.C == x1.Num.C) && ((x.Num.D == x1.Num.D) && true)))) && ((x.Exp == x1.Exp) && true)))) rfl rfl rfl (by kernel_rfl) (by kernel_rfl) (by kernel_rfl) (ST.sel hS4 [0, 1] rfl rfl) (fun w' hw' => (Y_neA (xs := #[vi x.Num.A, vi x.Num.B, vi x.Num.C, vi x.Num.D, vi x.Exp]) (ys := #[vi x1.Num.A, vi x1.Num.B, vi x1.Num.C, vi x1.Num.D, vi x1.Exp]) (b := (((x.Num.A == x1.Num.A) && ((x.Num.B == x1.Num.B) && ((x.Num.C == x1.Num.C) && ((x.Num.D == x1.Num.D) && true)))) && ((x.Exp == x1.Exp) && true))) k_eg_49 rfl rfl rfl (eqr_struct (xs := [vi x.Num.A, vi x.Num.B, vi x.Num.C, vi x.Num.D, vi x.Exp]) (ys := [vi x1.Num.A, vi x1.Num.B, vi x1.Num.C, vi x1.Num.D, vi x1.Exp]) k_st_49 k_ho_49 (pts_ag (us := [vi x.Num.A, vi x.Num.B, vi x.Num.C, vi x.Num.D]) (vs := [vi x1.Num.A, vi x1.Num.B, vi x1.Num.C, vi x1.Num.D]) k_ag_47 k_sz_47_4 rfl rfl (eqr_struct (xs := [vi x.Num.A, vi x.Num.B, vi x.Num.C, vi x.Num.D]) (ys := [vi x1.Num.A, vi x1.Num.B, vi x1.Num.C, vi x1.Num.D]) k_st_47 k_ho_47 (pts_sc k_sc_3 rfl rfl (eqr_int k_int_3_i64) (pts_sc k_sc_3 rfl rfl (eqr_int k_int_3_i64) (pts_sc k_sc_3 rfl rfl (eqr_int k_int_3_i64) (pts_sc k_sc_3 rfl rfl (eqr_int k_int_3_i64) pts_nil))))) (pts_sc k_sc_3 rfl rfl (eqr_int k_int_3_i64) pts_nil))))) ?_
      refine ra_done (by kernel_rfl) ?_
      refine cw_cond (b := (!(((x.Num.A == x1.Num.A) && ((x.Num.B == x1.Num.B) && ((x.Num.C == x1.Num.C) && ((x.Num.D == x1.Num.D) && true)))) && ((x.Exp == x1.Exp) && true)))) rfl (fun hb2 => ?_) (fun hb2 => ?_)
      · skip
        have hF4 := ct hb1 hb2
        refine cw_seq ?_
        refine cw_region ?_
        refine sq 4 rfl rfl (Y_assign (v := .bool false) rfl rfl) ?_
        refine rw_nil ?_
        refine cw_ret ?_
        obtain rfl := some_inj hF4
        obtain rfl := some_inj hL1
        obtain rfl := some_inj hF3
        exact ret1 Tryd.results48 (v1 := .bool false) (resAt_tmp rfl) ⟨rfl, (ST.subR (R' := []) (hS4.sel [] rfl rfl) (fun _ h => by cases h))⟩
      · skip
        have hF5 := cf' hb1 hb2
        refine cw_skip ?_
        refine cw_region ?_
        refine sq 44 rfl rfl (Y_add (k := .i64) (a := (i : Int)) (b := 1) rfl (hf.get 30 3 rfl) rfl) ?_
        refine sq 30 rfl rfl (Y_move (v := vi (i64.wrap ((i : Int) + 1))) rfl rfl) ?_
        refine rw_nil ?_
        obtain rfl := some_inj hF5
        exact ⟨k_1, Nat.lt_succ_self _, i + 1, (FF.cons (hf.get 2 0 rfl) (FF.cons (hf.get 3 1 rfl) (FF.cons (hf.get 29 2 rfl) (FF.cons (congrArg (Value.int .i64) (wr_succ hlt1 hN)) FF.nil)))), (hS4.sel [0, 1] rfl rfl), (by omega), hL1⟩
    · skip
      obtain rfl : k_ = 0 := by have h := of_decide_eq_false hlt; omega
      refine cw_exit rfl ?_
      obtain rfl := some_inj hL
      refine cw_seq ?_
      refine cw_region ?_
      refine sq 4 rfl rfl (Y_assign (v := .bool true) rfl rfl) ?_
      refine rw_nil ?_
      refine cw_ret ?_
      obtain rfl := some_inj hF3
      exact ret1 Tryd.results48 (v1 := .bool true) (resAt_tmp rfl) ⟨rfl, (ST.subR (R' := []) (hS3.sel [] rfl rfl) (fun _ h => by cases h))⟩

theorem c_spec_l1Turn (x : TRing) (k_ : Int)  (w0 : World)  (hS : ST w0 [] w0 [] []) {r_ : TRing} (hF : F_spec_l1Turn x k_ = some r_) :
    CV Tryd.prog 101 #[.agg #[vi x.A, vi x.B, vi x.C, vi x.D], vi k_] w0 (fun v w' => v = .agg #[vi r_.A, vi r_.B, vi r_.C, vi r_.D] ∧ ST w0 [] w' [] []) := by
  unfold F_spec_l1Turn at hF
  refine cv_of_cw 24 Tryd.func101 rfl Tryd.ntmps101 rfl ?_
  refine cw_seq ?_
  refine cw_region ?_
  refine ss 2 rfl rfl (Ys_box (T := 47) (v := .agg #[vi x.A, vi x.B, vi x.C, vi x.D]) (cs := [vi x.A, vi x.B, vi x.C, vi x.D]) (m := 4) hS rfl rfl rfl rfl) ?_
  rintro _ w_ ⟨b, rfl, hS1⟩
  refine ss 4 rfl rfl (Ys_alloc (T := 47) (cs := [vi 0, vi 0, vi 0, vi 0]) (m := 4) hS1 k_zero_47 rfl rfl rfl) ?_
  rintro _ w_1 ⟨b1, rfl, hS2⟩
  have hS2 : ST w0 [] _ [⟨some ⟨b, 0, none⟩, 47, [vi x.A, vi x.B, vi x.C, vi x.D], 4⟩, ⟨some ⟨b1, 0, none⟩, 47, [vi 0, vi 0, vi 0, vi 0], 4⟩] [] := hS2
  refine rw_nil ?_
  refine cw_seq ?_
  refine cw_seq ?_
  refine cw_region ?_
  refine sq 5 rfl rfl (Y_move (v := vi k_) rfl rfl) ?_
  refine sq 6 rfl rfl (Y_rem (k := .i64) (a := k_) (b := 8) rfl rfl rfl (by decide)) ?_
  refine sq 7 rfl rfl (Y_add (k := .i64) (a := (Int.tmod k_ 8)) (b := 8) rfl rfl rfl) ?_
  refine sq 8 rfl rfl (Y_rem (k := .i64) (a := (i64.wrap ((Int.tmod k_ 8) + 8))) (b := 8) rfl rfl rfl (by decide)) ?_
  refine sq 1 rfl rfl (Y_assign (v := vi (Int.tmod (i64.wrap ((Int.tmod k_ 8) + 8)) 8)) rfl rfl) ?_
  refine rw_nil ?_
  obtain ⟨z, hz, hF1⟩ := bind_inv hF
  refine cw_block ?_
  refine cw_loop (fun k f w => ∃ (k_1 : Int) (A : Int) (B : Int) (C : Int) (D : Int), FF f [(1, vi k_1), (2, pt (some ⟨b, 0, none⟩) 0), (4, pt (some ⟨b1, 0, none⟩) 0)] ∧ ST w0 [] w [⟨some ⟨b, 0, none⟩, 47, [vi A, vi B, vi C, vi D], 4⟩, ⟨some ⟨b1, 0, none⟩, 47, [vi 0, vi 0, vi 0, vi 0], 4⟩] [] ∧ whX F_spec_l1Turn_l1 k (k_1, A, B, C, D) = some z) fuel ⟨(Int.tmod (i64.wrap ((Int.tmod k_ 8) + 8)) 8), x.A, x.B, x.C, x.D, (FF.cons rfl (FF.cons rfl (FF.cons rfl FF.nil))), (hS2.sel [0, 1] rfl rfl), hz⟩ ?_
  rintro k_2 f w ⟨k_1, A, B, C, D, hf, hS3, hL⟩
  obtain ⟨k_3, y, rfl, hb, hL1⟩ := whX_go hL
  unfold F_spec_l1Turn_l1 at hb
  refine cw_seq ?_
  refine cw_seq ?_
  refine cw_region ?_
  refine sq 9 rfl rfl (Y_move (v := vi k_1) rfl (hf.get 1 0 rfl)) ?_
  refine sq 10 rfl rfl (Y_gt (k := .i64) (a := k_1) (b := 0) rfl rfl rfl) ?_
  refine rw_nil ?_
  refine cw_cond (b := (decide (0 < k_1))) rfl (fun hb1 => ?_) (fun hb1 => ?_)
  · skip
    have hF2 := ct hb hb1
    refine cw_skip ?_
    refine cw_seq ?_
    refine cw_block ?_
    refine cw_region ?_
    refine sq 13 rfl rfl (Y_fieldAddr (B := some ⟨b, 0, none⟩) (i := 0) (s := 0) k_fd_47_3_3_3 k_sz_3_1 rfl (hf.get 2 1 rfl)) ?_
    refine sq 14 rfl rfl (Y_load1 (B := some ⟨b, 0, none⟩) (i := 3) (cs := [vi A, vi B, vi C, vi D]) (v := vi D) k_sc_3 rfl rfl (hS3.cf (i := 0) rfl) rfl) ?_
    refine sq 15 rfl rfl (Y_neg (k := .i64) (a := D) rfl rfl) ?_
    refine sq 16 rfl rfl (Y_fieldAddr (B := some ⟨b, 0, none⟩) (i := 0) (s := 0) k_fd_47_0_0_3 k_sz_3_1 rfl (hf.get 2 1 rfl)) ?_
    refine sq 17 rfl rfl (Y_load1 (B := some ⟨b, 0, none⟩) (i := 0) (cs := [vi A, vi B, vi C, vi D]) (v := vi A) k_sc_3 rfl rfl (hS3.cf (i := 0) rfl) rfl) ?_
    refine sq 18 rfl rfl (Y_fieldAddr (B := some ⟨b, 0, none⟩) (i := 0) (s := 0) k_fd_47_1_1_3 k_sz_3_1 rfl (hf.get 2 1 rfl)) ?_
    refine sq 19 rfl rfl (Y_load1 (B := some ⟨b, 0, none⟩) (i := 1) (cs := [vi A, vi B, vi C, vi D]) (v := vi B) k_sc_3 rfl rfl (hS3.cf (i := 0) rfl) rfl) ?_
    refine sq 20 rfl rfl (Y_fieldAddr (B := some ⟨b, 0, none⟩) (i := 0) (s := 0) k_fd_47_2_2_3 k_sz_3_1 rfl (hf.get 2 1 rfl)) ?_
    refine sq 21 rfl rfl (Y_load1 (B := some ⟨b, 0, none⟩) (i := 2) (cs := [vi A, vi B, vi C, vi D]) (v := vi C) k_sc_3 rfl rfl (hS3.cf (i := 0) rfl) rfl) ?_
    refine sq 22 rfl rfl (Y_buildS (zs := [vi 0, vi 0, vi 0, vi 0]) (vs := [(0, vi (i64.wrap (-D))), (1, vi A), (2, vi B), (3, vi C)]) (cs := [vi (i64.wrap (-D)), vi A, vi B, vi C]) k_pl_47 k_zero_47 rfl (mpc rfl (mpc rfl (mpc rfl (mpc rfl mpn)))) rfl) ?_
    refine ss0 rfl rfl (Ys_store (i := 0) (s := 4) (B := some ⟨b, 0, none⟩) (T' := 47) (v := .agg #[vi (i64.wrap (-D)), vi A, vi B, vi C]) (vs := [vi (i64.wrap (-D)), vi A, vi B, vi C]) (k := 0) (cs' := [vi (i64.wrap (-D)), vi A, vi B, vi C]) hS3 k_sz_47_4 rfl (hf.get 2 1 rfl) rfl rfl rfl rfl rfl (Nat.le_of_ble_eq_true rfl) rfl rfl) ?_
    rintro _ w_2 ⟨rfl, hS4⟩
    have hS4 : ST w0 [] _ [⟨some ⟨b, 0, none⟩, 47, [vi (i64.wrap (-D)), vi A, vi B, vi C], 4⟩, ⟨some ⟨b1, 0, none⟩, 47, [vi 0, vi 0, vi 0, vi 0], 4⟩] [] := hS4
    refine rw_nil ?_
    refine cw_region ?_
    refine sq 11 rfl rfl (Y_move (v := vi k_1) rfl (hf.get 1 0 rfl)) ?_
    refine sq 12 rfl rfl (Y_sub (k := .i64) (a := k_1) (b := 1) rfl rfl rfl) ?_
    refine sq 1 rfl rfl (Y_assign (v := vi (i64.wrap (k_1 - 1))) rfl rfl) ?_
    refine rw_nil ?_
    obtain rfl := some_inj hF2
    exact ⟨k_3, Nat.lt_succ_self _, (i64.wrap (k_1 - 1)), (i64.wrap (-D)), A, B, C, (FF.cons rfl (FF.cons (hf.get 2 1 rfl) (FF.cons (hf.get 4 2 rfl) FF.nil))), (hS4.sel [0, 1] rfl rfl), hL1⟩
  · skip
    have hF3 := cf' hb hb1
    refine cw_exit rfl ?_
    obtain rfl := some_inj hF3
    obtain rfl := some_inj hL1
    refine cw_seq ?_
    refine cw_region ?_
    refine sq 23 rfl rfl (Y_loadA (B := some ⟨b, 0, none⟩) (i := 0) (cs := [vi A, vi B, vi C, vi D]) (vs := [vi A, vi B, vi C, vi D]) k_ag_47 k_sz_47_4 rfl (hf.get 2 1 rfl) (hS3.cf (i := 0) rfl) rfl rfl) ?_
    refine ss0 rfl rfl (Ys_store (i := 1) (s := 4) (B := some ⟨b1, 0, none⟩) (T' := 47) (v := .agg #[vi A, vi B, vi C, vi D]) (vs := [vi A, vi B, vi C, vi D]) (k := 0) (cs' := [vi A, vi B, vi C, vi D]) hS3 k_sz_47_4 rfl (hf.get 4 2 rfl) rfl rfl rfl rfl rfl (Nat.le_of_ble_eq_true rfl) rfl rfl) ?_
    rintro _ w_3 ⟨rfl, hS5⟩
    have hS5 : ST w0 [] _ [⟨some ⟨b, 0, none⟩, 47, [vi A, vi B, vi C, vi D], 4⟩, ⟨some ⟨b1, 0, none⟩, 47, [vi A, vi B, vi C, vi D], 4⟩] [] := hS5
    refine rw_nil ?_
    refine cw_ret ?_
    obtain rfl := some_inj hF1
    exact ret1 Tryd.results101 (v1 := .agg #[vi A, vi B, vi C, vi D]) (resAt_cellA (B := some ⟨b1, 0, none⟩) (i := 0) (cs := [vi A, vi B, vi C, vi D]) (vs := [vi A, vi B, vi C, vi D]) (hf.get 4 2 rfl) k_ag_47 k_sz_47_4 (hS5.cf (i := 1) rfl) rfl rfl) ⟨rfl, (ST.subR (R' := []) (hS5.sel [] rfl rfl) (fun _ h => by cases h))⟩

theorem c_spec_l2Power (k_ : Int)  (w0 : World)  (hS : ST w0 [] w0 [] []) {r_ : TDyadic} (hF : F_spec_l2Power k_ = some r_) :
    CV Tryd.prog 81 #[vi k_] w0 (fun v w' => v = .agg #[vi r_.Num.A, vi r_.Num.B, vi r_.Num.C, vi r_.Num.D, vi r_.Exp] ∧ ST w0 [] w' [] []) := by
  unfold F_spec_l2Power at hF
  refine cv_of_cw 7 Tryd.func81 rfl Tryd.ntmps81 rfl ?_
  refine cw_seq ?_
  refine cw_region ?_
  refine ss 2 rfl rfl (Ys_alloc (T := 49) (cs := [vi 0, vi 0, vi 0, vi 0, vi 0]) (m := 5) hS k_zero_49 rfl rfl rfl) ?_
  rintro _ w_ ⟨b, rfl, hS1⟩
  refine rw_nil ?_
  refine cw_seq ?_
  refine cw_region ?_
  refine sq 3 rfl rfl (Y_buildS (zs := [vi 0, vi 0, vi 0, vi 0]) (vs := [(0, vi 1)]) (cs := [vi 1, vi 0, vi 0, vi 0]) k_pl_47 k_zero_47 rfl (mpc rfl mpn) rfl) ?_
  refine sq 4 rfl rfl (Y_move (v := vi k_) rfl rfl) ?_
  obtain ⟨r_1, hc, hF⟩ := bind_inv hF
  refine sc 5 rfl rfl (Yc_func (g := 101) (vs := [.agg #[vi 1, vi 0, vi 0, vi 0], vi k_]) k_call_101 rfl (mc rfl (mc rfl mn)) (c_spec_l1Turn (TRing.mk 1 0 0 0) k_ _  (hS1.inn0 [] rfl) hc)) ?_
  rintro _ w_1 ⟨rfl, hd⟩
  have hS2 := hS1.out00 hd
  refine sq 6 rfl rfl (Y_buildS (zs := [vi 0, vi 0, vi 0, vi 0, vi 0]) (vs := [(0, .agg #[vi r_1.A, vi r_1.B, vi r_1.C, vi r_1.D])]) (cs := [vi r_1.A, vi r_1.B, vi r_1.C, vi r_1.D, vi 0]) k_pl_49 k_zero_49 rfl (mpc rfl mpn) rfl) ?_
  refine ss0 rfl rfl (Ys_store (i := 0) (s := 5) (B := some ⟨b, 0, none⟩) (T' := 49) (v := .agg #[vi r_1.A, vi r_1.B, vi r_1.C, vi r_1.D, vi 0]) (vs := [vi r_1.A, vi r_1.B, vi r_1.C, vi r_1.D, vi 0]) (k := 0) (cs' := [vi r_1.A, vi r_1.B, vi r_1.C, vi r_1.D, vi 0]) hS2 k_sz_49_5 rfl rfl rfl rfl rfl rfl rfl (Nat.le_of_ble_eq_true rfl) rfl rfl) ?_
  rintro _ w_2 ⟨rfl, hS3⟩
  refine rw_nil ?_
  refine cw_ret ?_
  obtain rfl := some_inj hF
  exact ret1 Tryd.results81 (v1 := .agg #[vi r_1.A, vi r_1.B, vi r_1.C, vi r_1.D, vi 0]) (resAt_cellA (B := some ⟨b, 0, none⟩) (i := 0) (cs := [vi r_1.A, vi r_1.B, vi r_1.C, vi r_1.D, vi 0]) (vs := [vi r_1.A, vi r_1.B, vi r_1.C, vi r_1.D, vi 0]) rfl k_ag_49 k_sz_49_5 (hS3.cf (i := 0) rfl) rfl rfl) ⟨rfl, (ST.subR (R' := []) (hS3.sel [] rfl rfl) (fun _ h => by cases h))⟩

theorem c_spec_l3Unit (n : Int)  (w0 : World)  (hS : ST w0 [] w0 [] []) {r_ : TMatrix} (hF : F_spec_l3Unit n = some r_) :
    CV Tryd.prog 49 #[vi n] w0 (fun v w' => ∃ (B : Option Addr) (c : Nat), v = .agg #[vi r_.Rows, vi r_.Cols, .slice B r_.Cells.length c] ∧ ST w0 [] w' [⟨B, 49, (r_.Cells.flatMap enc_Dyadic), c * 5⟩] []) := by
  unfold F_spec_l3Unit at hF
  refine cv_of_cw 27 Tryd.func49 rfl Tryd.ntmps49 rfl ?_
  refine cw_seq ?_
  refine cw_region ?_
  refine ss 2 rfl rfl (Ys_alloc (T := 32) (cs := [vi 0, vi 0, .slice none 0 0]) (m := 3) hS k_zero_32 rfl rfl rfl) ?_
  rintro _ w_ ⟨b, rfl, hS1⟩
  refine rw_nil ?_
  refine cw_seq ?_
  refine cw_region ?_
  refine sq 5 rfl rfl (Y_move (v := vi n) rfl rfl) ?_
  refine sq 6 rfl rfl (Y_move (v := vi n) rfl rfl) ?_
  refine sq 7 rfl rfl (Y_move (v := vi n) rfl rfl) ?_
  refine sq 8 rfl rfl (Y_move (v := vi n) rfl rfl) ?_
  refine sq 9 rfl rfl (Y_mul (k := .i64) (a := n) (b := n) rfl rfl rfl) ?_
  obtain ⟨hmk, hF⟩ := chk_inv hF
  refine ss 10 rfl rfl (Ys_make (s := 5) (by' := 40) (nn := (i64.wrap (n * n)).toNat) (a := (i64.wrap (n * n))) (b := (i64.wrap (n * n))) (cs := ((List.replicate ((i64.wrap (n * n)).toNat) (TDyadic.mk (TRing.mk 0 0 0 0) 0)).flatMap enc_Dyadic)) hS1 k_sl_26_49 k_sz_49_5 k_by_49_40 k_zero_49 rfl rfl rfl rfl hmk.1 rfl (by have := hmk; omega) (by have := hmk; omega) (by omega) (fm_rep (enc := enc_Dyadic) (d := (TDyadic.mk (TRing.mk 0 0 0 0) 0)) rfl _)) ?_
  rintro _ w_1 ⟨b1, rfl, hS2⟩
  have hS2 : ST w0 [] _ [⟨some ⟨b, 0, none⟩, 32, [vi 0, vi 0, .slice none 0 0], 3⟩, ⟨some ⟨b1, 0, none⟩, 49, ((List.replicate ((i64.wrap (n * n)).toNat) (TDyadic.mk (TRing.mk 0 0 0 0) 0)).flatMap enc_Dyadic), ((i64.wrap (n * n)).toNat) * 5⟩] [] := hS2
  refine sq 11 rfl rfl (Y_buildS (zs := [vi 0, vi 0, .slice none 0 0]) (vs := [(0, vi n), (1, vi n), (2, .slice (some ⟨b1, 0, none⟩) ((i64.wrap (n * n)).toNat) ((i64.wrap (n * n)).toNat))]) (cs := [vi n, vi n, .slice (some ⟨b1, 0, none⟩) ((i64.wrap (n * n)).toNat) ((i64.wrap (n * n)).toNat)]) k_pl_32 k_zero_32 rfl (mpc rfl (mpc rfl (mpc rfl mpn))) rfl) ?_
  refine ss 3 rfl rfl (Ys_alloc (T := 32) (cs := [vi 0, vi 0, .slice none 0 0]) (m := 3) hS2 k_zero_32 rfl rfl rfl) ?_
  rintro _ w_2 ⟨b2, rfl, hS3⟩
  have hS3 : ST w0 [] _ [⟨some ⟨b, 0, none⟩, 32, [vi 0, vi 0, .slice none 0 0], 3⟩, ⟨some ⟨b1, 0, none⟩, 49, ((List.replicate ((i64.wrap (n * n)).toNat) (TDyadic.mk (TRing.mk 0 0 0 0) 0)).flatMap enc_Dyadic), ((i64.wrap (n * n)).toNat) * 5⟩, ⟨some ⟨b2, 0, none⟩, 32, [vi 0, vi 0, .slice none 0 0], 3⟩] [] := hS3
  refine ss0 rfl rfl (Ys_store (i := 2) (s := 3) (B := some ⟨b2, 0, none⟩) (T' := 32) (v := .agg #[vi n, vi n, .slice (some ⟨b1, 0, none⟩) ((i64.wrap (n * n)).toNat) ((i64.wrap (n * n)).toNat)]) (vs := [vi n, vi n, .slice (some ⟨b1, 0, none⟩) ((i64.wrap (n * n)).toNat) ((i64.wrap (n * n)).toNat)]) (k := 0) (cs' := [vi n, vi n, .slice (some ⟨b1, 0, none⟩) ((i64.wrap (n * n)).toNat) ((i64.wrap (n * n)).toNat)]) hS3 k_sz_32_3 rfl rfl rfl rfl rfl rfl rfl (Nat.le_of_ble_eq_true rfl) rfl rfl) ?_
  rintro _ w_3 ⟨rfl, hS4⟩
  have hS4 : ST w0 [] _ [⟨some ⟨b, 0, none⟩, 32, [vi 0, vi 0, .slice none 0 0], 3⟩, ⟨some ⟨b1, 0, none⟩, 49, ((List.replicate ((i64.wrap (n * n)).toNat) (TDyadic.mk (TRing.mk 0 0 0 0) 0)).flatMap enc_Dyadic), ((i64.wrap (n * n)).toNat) * 5⟩, ⟨some ⟨b2, 0, none⟩, 32, [vi n, vi n, .slice (some ⟨b1, 0, none⟩) ((i64.wrap (n * n)).toNat) ((i64.wrap (n * n)).toNat)], 3⟩] [] := hS4
  refine rw_nil ?_
  refine cw_seq ?_
  refine cw_seq ?_
  refine cw_region ?_
  refine sq 4 rfl rfl (Y_assign (v := vi 0) rfl rfl) ?_
  refine rw_nil ?_
  obtain ⟨hN, hF⟩ := chk_inv hF
  obtain ⟨z, hz, hF1⟩ := bind_inv hF
  refine cw_block ?_
  refine cw_loop (fun k f w => ∃ (i1 : Nat) (Cells : List TDyadic), FF f [(0, vi n), (2, pt (some ⟨b, 0, none⟩) 0), (3, pt (some ⟨b2, 0, none⟩) 0), (4, vi (i1 : Int))] ∧ Cells.length = (i64.wrap (n * n)).toNat ∧ ST w0 [] w [⟨some ⟨b, 0, none⟩, 32, [vi 0, vi 0, .slice none 0 0], 3⟩, ⟨some ⟨b2, 0, none⟩, 32, [vi n, vi n, .slice (some ⟨b1, 0, none⟩) ((i64.wrap (n * n)).toNat) ((i64.wrap (n * n)).toNat)], 3⟩, ⟨some ⟨b1, 0, none⟩, 49, (Cells.flatMap enc_Dyadic), ((i64.wrap (n * n)).toNat) * 5⟩] [] ∧ i1 + k = n.toNat ∧ forN (F_spec_l3Unit_l1 n) k i1 Cells = some z) n.toNat ⟨0, (List.replicate ((i64.wrap (n * n)).toNat) (TDyadic.mk (TRing.mk 0 0 0 0) 0)), (FF.cons rfl (FF.cons rfl (FF.cons rfl (FF.cons rfl FF.nil)))), List.length_replicate, (hS4.sel [0, 2, 1] rfl rfl), Nat.zero_add _, hz⟩ ?_
  rintro k_ f w ⟨i1, Cells, hf, hl, hS5, hik, hL⟩
  refine cw_seq ?_
  refine cw_seq ?_
  refine cw_region ?_
  refine sq 12 rfl rfl (Y_move (v := vi (i1 : Int)) rfl (hf.get 4 3 rfl)) ?_
  refine sq 13 rfl rfl (Y_move (v := vi n) rfl (hf.get 0 0 rfl)) ?_
  refine sq 14 rfl rfl (Y_lt (k := .i64) (a := (i1 : Int)) (b := n) rfl rfl rfl) ?_
  refine rw_nil ?_
  refine cw_cond (b := (decide ((i1 : Int) < n))) rfl (fun hlt => ?_) (fun hlt => ?_)
  · skip
    have hlt1 : i1 < n.toNat := by have h := of_decide_eq_true hlt; omega
    obtain ⟨k_1, rfl⟩ : ∃ k2, k_ = k2 + 1 := ⟨k_ - 1, by omega⟩
    obtain ⟨y, hb, hL1⟩ := forN_go hL
    unfold F_spec_l3Unit_l1 at hb
    refine cw_skip ?_
    refine cw_seq ?_
    refine cw_block ?_
    obtain ⟨r_1, hc, hb⟩ := bind_inv hb
    obtain ⟨x, hx, hb⟩ := bind_inv hb
    refine ra_start (ST.sel hS5 [0, 1] rfl rfl).fn (by kernel_rfl) ?_
    have hS7 := hS5.drew
    refine ra_q 0 17 (v := pt (some ⟨b2, 0, none⟩) 2) rfl rfl rfl (by kernel_rfl) (by kernel_rfl) (by kernel_rfl) (ST.sel hS7 [0, 1] rfl rfl) (fun w' hw' => (Y_fieldAddr (B := some ⟨b2, 0, none⟩) (i := 0) (s := 0) k_fd_32_2_2_26 k_sz_26_1 rfl (hf.get 3 2 rfl))) ?_
    refine ra_q 1 18 (v := .slice (some ⟨b1, 0, none⟩) ((i64.wrap (n * n)).toNat) ((i64.wrap (n * n)).toNat)) rfl rfl rfl (by kernel_rfl) (by kernel_rfl) (by kernel_rfl) (ST.sel hS7 [0, 1] rfl rfl) (fun w' hw' => (Y_load1 (B := some ⟨b2, 0, none⟩) (i := 2) (cs := [vi n, vi n, .slice (some ⟨b1, 0, none⟩) ((i64.wrap (n * n)).toNat) ((i64.wrap (n * n)).toNat)]) (v := .slice (some ⟨b1, 0, none⟩) ((i64.wrap (n * n)).toNat) ((i64.wrap (n * n)).toNat)) k_sc_26 rfl rfl (ST.cf hw' (i := 1) rfl) rfl)) ?_
    refine ra_q 2 19 (v := vi (i1 : Int)) rfl rfl rfl (by kernel_rfl) (by kernel_rfl) (by kernel_rfl) (ST.sel hS7 [0, 1] rfl rfl) (fun w' hw' => (Y_move (v := vi (i1 : Int)) rfl (hf.get 4 3 rfl))) ?_
    refine ra_q 3 20 (v := vi n) rfl rfl rfl (by kernel_rfl) (by kernel_rfl) (by kernel_rfl) (ST.sel hS7 [0, 1] rfl rfl) (fun w' hw' => (Y_move (v := vi n) rfl (hf.get 0 0 rfl))) ?_
    refine ra_q 4 21 (v := vi (i64.wrap ((i1 : Int) * n))) rfl rfl rfl (by kernel_rfl) (by kernel_rfl) (by kernel_rfl) (ST.sel hS7 [0, 1] rfl rfl) (fun w' hw' => (Y_mul (k := .i64) (a := (i1 : Int)) (b := n) rfl rfl rfl)) ?_
    refine ra_q 5 22 (v := vi (i1 : Int)) rfl rfl rfl (by kernel_rfl) (by kernel_rfl) (by kernel_rfl) (ST.sel hS7 [0, 1] rfl rfl) (fun w' hw' => (Y_move (v := vi (i1 : Int)) rfl (hf.get 4 3 rfl))) ?_
    refine ra_q 6 23 (v := vi (i64.wrap ((i64.wrap ((i1 : Int) * n)) + (i1 : Int)))) rfl rfl rfl (by kernel_rfl) (by kernel_rfl) (by kernel_rfl) (ST.sel hS7 [0, 1] rfl rfl) (fun w' hw' => (Y_add (k := .i64) (a := (i64.wrap ((i1 : Int) * n))) (b := (i1 : Int)) rfl rfl rfl)) ?_
    refine ra_all (rs := [7]) (by kernel_rfl) rfl ?_
    refine ra_c 24 (i := 7) rfl rfl rfl (Yc_func (g := 81) (vs := [vi 0]) k_call_81 rfl (mc rfl mn) (c_spec_l2Power 0 _  (hS7.inn0 [] rfl) hc)) ?_ ?_
    · rintro _ w_4 ⟨rfl, hd⟩
      have hS8 := hS7.out00 hd
      have hS8 : ST w0 [] _ [⟨some ⟨b, 0, none⟩, 32, [vi 0, vi 0, .slice none 0 0], 3⟩, ⟨some ⟨b2, 0, none⟩, 32, [vi n, vi n, .slice (some ⟨b1, 0, none⟩) ((i64.wrap (n * n)).toNat) ((i64.wrap (n * n)).toNat)], 3⟩, ⟨some ⟨b1, 0, none⟩, 49, (Cells.flatMap enc_Dyadic), ((i64.wrap (n * n)).toNat) * 5⟩] [] := hS8
      refine ⟨(ST.sel hS8 [0, 1] rfl rfl), ?_⟩
      refine ra_all (rs := [8]) (by kernel_rfl) rfl ?_
      refine ra_y 25 (i := 8) (v := pt (some ⟨b1, 0, none⟩) ((i64.wrap ((i64.wrap ((i1 : Int) * n)) + (i1 : Int))).toNat * 5)) rfl rfl rfl (Y_index (B := some ⟨b1, 0, none⟩) (m := (i64.wrap (n * n)).toNat) (c := (i64.wrap (n * n)).toNat) (k := .i64) (i := (i64.wrap ((i64.wrap ((i1 : Int) * n)) + (i1 : Int)))) k_sl_26_49 k_sz_49_5 rfl rfl rfl (gi_isSome enc_Dyadic_len rfl (hS8.cf (i := 2) rfl) hx) (getI_nn hx) (getI_ltI hx hl)) (ST.sel hS8 [0, 1] rfl rfl) ?_ ?_
      · skip
        refine ra_all (rs := [9]) (by kernel_rfl) rfl ?_
        refine ra_s0 (i := 9) rfl rfl rfl (Ys_store (i := 2) (s := 5) (B := some ⟨b1, 0, none⟩) (T' := 49) (v := .agg #[vi r_1.Num.A, vi r_1.Num.B, vi r_1.Num.C, vi r_1.Num.D, vi r_1.Exp]) (vs := [vi r_1.Num.A, vi r_1.Num.B, vi r_1.Num.C, vi r_1.Num.D, vi r_1.Exp]) (k := (i64.wrap ((i64.wrap ((i1 : Int) * n)) + (i1 : Int))).toNat * 5) (cs' := ((Cells.set (i64.wrap ((i64.wrap ((i1 : Int) * n)) + (i1 : Int))).toNat r_1).flatMap enc_Dyadic)) hS8 k_sz_49_5 rfl rfl rfl rfl rfl rfl rfl (gi_fit0 enc_Dyadic_len hx) (gi_set enc_Dyadic_len hx r_1 rfl) rfl) ?_ ?_
        · rintro _ w_5 ⟨rfl, hS9⟩
          have hS9 : ST w0 [] _ [⟨some ⟨b, 0, none⟩, 32, [vi 0, vi 0, .slice none 0 0], 3⟩, ⟨some ⟨b2, 0, none⟩, 32, [vi n, vi n, .slice (some ⟨b1, 0, none⟩) ((i64.wrap (n * n)).toNat) ((i64.wrap (n * n)).toNat)], 3⟩, ⟨some ⟨b1, 0, none⟩, 49, ((Cells.set (i64.wrap ((i64.wrap ((i1 : Int) * n)) + (i1 : Int))).toNat r_1).flatMap enc_Dyadic), ((i64.wrap (n * n)).toNat) * 5⟩] [] := hS9
          refine ⟨(ST.sel hS9 [0, 1] rfl rfl), ?_⟩
          refine ra_done (by kernel_rfl) ?_
          refine cw_region ?_
          refine sq 15 rfl rfl (Y_move (v := vi (i1 : Int)) rfl (hf.get 4 3 rfl)) ?_
          refine sq 16 rfl rfl (Y_add (k := .i64) (a := (i1 : Int)) (b := 1) rfl rfl rfl) ?_
          refine sq 4 rfl rfl (Y_assign (v := vi (i64.wrap ((i1 : Int) + 1))) rfl rfl) ?_
          refine rw_nil ?_
          obtain rfl := some_inj hb
          exact ⟨k_1, Nat.lt_succ_self _, i1 + 1, (Cells.set (i64.wrap ((i64.wrap ((i1 : Int) * n)) + (i1 : Int))).toNat r_1), (FF.cons (hf.get 0 0 rfl) (FF.cons (hf.get 2 1 rfl) (FF.cons (hf.get 3 2 rfl) (FF.cons (congrArg (Value.int .i64) (wr_succ hlt1 hN)) FF.nil)))), (set_len _ _ _ hl), (hS9.sel [0, 1, 2] rfl rfl), (by omega), hL1⟩
        exact allR_nil
      exact allR_nil
    exact allR_nil
  · skip
    obtain rfl : k_ = 0 := by have h := of_decide_eq_false hlt; omega
    refine cw_exit rfl ?_
    obtain rfl := some_inj hL
    refine cw_seq ?_
    refine cw_region ?_
    refine sq 26 rfl rfl (Y_loadA (B := some ⟨b2, 0, none⟩) (i := 0) (cs := [vi n, vi n, .slice (some ⟨b1, 0, none⟩) ((i64.wrap (n * n)).toNat) ((i64.wrap (n * n)).toNat)]) (vs := [vi n, vi n, .slice (some ⟨b1, 0, none⟩) ((i64.wrap (n * n)).toNat) ((i64.wrap (n * n)).toNat)]) k_ag_32 k_sz_32_3 rfl (hf.get 3 2 rfl) (hS5.cf (i := 1) rfl) rfl rfl) ?_
    refine ss0 rfl rfl (Ys_store (i := 0) (s := 3) (B := some ⟨b, 0, none⟩) (T' := 32) (v := .agg #[vi n, vi n, .slice (some ⟨b1, 0, none⟩) ((i64.wrap (n * n)).toNat) ((i64.wrap (n * n)).toNat)]) (vs := [vi n, vi n, .slice (some ⟨b1, 0, none⟩) ((i64.wrap (n * n)).toNat) ((i64.wrap (n * n)).toNat)]) (k := 0) (cs' := [vi n, vi n, .slice (some ⟨b1, 0, none⟩) ((i64.wrap (n * n)).toNat) ((i64.wrap (n * n)).toNat)]) hS5 k_sz_32_3 rfl (hf.get 2 1 rfl) rfl rfl rfl rfl rfl (Nat.le_of_ble_eq_true rfl) rfl rfl) ?_
    rintro _ w_6 ⟨rfl, hS10⟩
    have hS10 : ST w0 [] _ [⟨some ⟨b, 0, none⟩, 32, [vi n, vi n, .slice (some ⟨b1, 0, none⟩) ((i64.wrap (n * n)).toNat) ((i64.wrap (n * n)).toNat)], 3⟩, ⟨some ⟨b2, 0, none⟩, 32, [vi n, vi n, .slice (some ⟨b1, 0, none⟩) ((i64.wrap (n * n)).toNat) ((i64.wrap (n * n)).toNat)], 3⟩, ⟨some ⟨b1, 0, none⟩, 49, (Cells.flatMap enc_Dyadic), ((i64.wrap (n * n)).toNat) * 5⟩] [] := hS10
    refine rw_nil ?_
    refine cw_ret ?_
    obtain rfl := some_inj hF1
    exact ret1 Tryd.results49 (v1 := .agg #[vi n, vi n, .slice (some ⟨b1, 0, none⟩) ((i64.wrap (n * n)).toNat) ((i64.wrap (n * n)).toNat)]) (resAt_cellA (B := some ⟨b, 0, none⟩) (i := 0) (cs := [vi n, vi n, .slice (some ⟨b1, 0, none⟩) ((i64.wrap (n * n)).toNat) ((i64.wrap (n * n)).toNat)]) (vs := [vi n, vi n, .slice (some ⟨b1, 0, none⟩) ((i64.wrap (n * n)).toNat) ((i64.wrap (n * n)).toNat)]) (hf.get 2 1 rfl) k_ag_32 k_sz_32_3 (hS10.cf (i := 0) rfl) rfl rfl) ⟨some ⟨b1, 0, none⟩, (i64.wrap (n * n)).toNat, (by simp [hl]), (ST.subR (R' := []) (hS10.sel [2] rfl rfl) (fun _ h => by cases h))⟩

theorem c_spec_IsUnitary (m : TMatrix) (B : Option Addr) (c n : Nat) (w0 : World) (hn : m.Cells.length = n) (hS : ST w0 [] w0 [] [⟨B, (m.Cells.flatMap enc_Dyadic)⟩]) {r_ : Bool} {r_1 : Bool} (hF : F_spec_IsUnitary m = some (r_, r_1)) :
    CV Tryd.prog 28 #[.agg #[vi m.Rows, vi m.Cols, .slice B n c]] w0 (fun v w' => v = .tuple #[.bool r_, .bool r_1] ∧ ST w0 [] w' [] []) := by
  subst hn
  unfold F_spec_IsUnitary at hF
  refine cv_of_cw 32 Tryd.func28 rfl Tryd.ntmps28 rfl ?_
  refine cw_seq ?_
  refine cw_region ?_
  refine ss 1 rfl rfl (Ys_box (T := 32) (v := .agg #[vi m.Rows, vi m.Cols, .slice B m.Cells.length c]) (cs := [vi m.Rows, vi m.Cols, .slice B m.Cells.length c]) (m := 3) hS rfl rfl rfl rfl) ?_
  rintro _ w_ ⟨b, rfl, hS1⟩
  refine sq 2 rfl rfl (Y_assign (v := .bool false) rfl rfl) ?_
  refine sq 3 rfl rfl (Y_assign (v := .bool false) rfl rfl) ?_
  refine rw_nil ?_
  refine cw_seq ?_
  refine cw_seq ?_
  refine cw_region ?_
  refine sq 6 rfl rfl (Y_loadA (B := some ⟨b, 0, none⟩) (i := 0) (cs := [vi m.Rows, vi m.Cols, .slice B m.Cells.length c]) (vs := [vi m.Rows, vi m.Cols, .slice B m.Cells.length c]) k_ag_32 k_sz_32_3 rfl rfl (hS1.cf (i := 0) rfl) rfl rfl) ?_
  obtain ⟨r_2, hc, hF⟩ := bind_inv hF
  refine sc 7 rfl rfl (Yc_func (g := 47) (vs := [.agg #[vi m.Rows, vi m.Cols, .slice B m.Cells.length c]]) k_call_47 rfl (mc rfl mn) (c_spec_l3Good m B c m.Cells.length _ rfl (hS1.inn0 [(true, 0)] rfl) hc)) ?_
  rintro _ w_1 ⟨rfl, hd⟩
  have hS2 := hS1.out00 hd
  refine sq 8 rfl rfl (Y_not (p := r_2) rfl rfl) ?_
  refine sq 9 rfl rfl (Y_move (v := .bool (!r_2)) rfl rfl) ?_
  refine sgq 10 (B := (!(!r_2))) (v := pt (some ⟨b, 0, none⟩) 0) rfl rfl (wt_f (gd_of (t := 9) (by kernel_rfl) rfl)) (fun hg => (Y_fieldAddr (B := some ⟨b, 0, none⟩) (i := 0) (s := 0) k_fd_32_0_0_3 k_sz_3_1 rfl rfl)) ?_
  refine sgq 11 (B := (!(!r_2))) (v := vi m.Rows) rfl rfl (wt_f (gd_of (t := 9) (by kernel_rfl) rfl)) (fun hg1 => (Y_load1 (B := some ⟨b, 0, none⟩) (i := 0) (cs := [vi m.Rows, vi m.Cols, .slice B m.Cells.length c]) (v := vi m.Rows) k_sc_3 rfl (gv_of (B := (!(!r_2))) (v := pt (some ⟨b, 0, none⟩) 0) hg1) (hS2.cf (i := 0) rfl) rfl)) ?_
  refine sgq 12 (B := (!(!r_2))) (v := pt (some ⟨b, 0, none⟩) 1) rfl rfl (wt_f (gd_of (t := 9) (by kernel_rfl) rfl)) (fun hg2 => (Y_fieldAddr (B := some ⟨b, 0, none⟩) (i := 0) (s := 0) k_fd_32_1_1_3 k_sz_3_1 rfl rfl)) ?_
  refine sgq 13 (B := (!(!r_2))) (v := vi m.Cols) rfl rfl (wt_f (gd_of (t := 9) (by kernel_rfl) rfl)) (fun hg3 => (Y_load1 (B := some ⟨b, 0, none⟩) (i := 1) (cs := [vi m.Rows, vi m.Cols, .slice B m.Cells.length c]) (v := vi m.Cols) k_sc_3 rfl (gv_of (B := (!(!r_2))) (v := pt (some ⟨b, 0, none⟩) 1) hg3) (hS2.cf (i := 0) rfl) rfl)) ?_
  refine sgq 14 (B := (!(!r_2))) (v := .bool (m.Rows != m.Cols)) rfl rfl (wt_f (gd_of (t := 9) (by kernel_rfl) rfl)) (fun hg4 => (Y_ne (k := .i64) (a := m.Rows) (b := m.Cols) rfl (gv_of (B := (!(!r_2))) (v := vi m.Rows) hg4) (gv_of (B := (!(!r_2))) (v := vi m.Cols) hg4))) ?_
  refine sq 15 rfl rfl (Y_or (b := (!r_2)) (z := (m.Rows != m.Cols)) rfl rfl rfl rfl) ?_
  refine rw_nil ?_
  refine cw_cond (b := ((!r_2) || (m.Rows != m.Cols))) rfl (fun hb => ?_) (fun hb => ?_)
  · skip
    have hF1 := ct hF hb
    refine cw_seq ?_
    refine cw_region ?_
    refine sq 2 rfl rfl (Y_assign (v := .bool false) rfl rfl) ?_
    refine sq 3 rfl rfl (Y_assign (v := .bool false) rfl rfl) ?_
    refine rw_nil ?_
    refine cw_ret ?_
    obtain ⟨rfl, rfl⟩ := pr2 (some_inj hF1)
    exact ret2 Tryd.results28 (v1 := .bool false) (resAt_tmp rfl) (v2 := .bool false) (resAt_tmp rfl) ⟨rfl, (ST.subR (R' := []) (hS2.sel [] rfl rfl) (fun _ h => by cases h))⟩
  · skip
    have hF2 := cf' hF hb
    refine cw_skip ?_
    refine cw_seq ?_
    refine cw_region ?_
    refine sq 16 rfl rfl (Y_buildS (zs := [.bool false]) (vs := []) (cs := [.bool false]) k_pl_59 k_zero_59 rfl mpn rfl) ?_
    refine ss 17 rfl rfl (Ys_box (T := 59) (v := .agg #[.bool false]) (cs := [.bool false]) (m := 1) hS2 rfl rfl rfl rfl) ?_
    rintro _ w_2 ⟨b1, rfl, hS3⟩
    have hS3 : ST w0 [] _ [⟨some ⟨b, 0, none⟩, 32, [vi m.Rows, vi m.Cols, .slice B m.Cells.length c], 3⟩, ⟨some ⟨b1, 0, none⟩, 59, [.bool false], 1⟩] [⟨B, (m.Cells.flatMap enc_Dyadic)⟩] := hS3
    refine sq 4 rfl rfl (Y_assign (v := pt (some ⟨b1, 0, none⟩) 0) rfl rfl) ?_
    refine rw_nil ?_
    refine cw_seq ?_
    obtain ⟨r_3, hc1, hF2⟩ := bind_inv hF2
    obtain ⟨⟨r_4, m1⟩, hc2, hF2⟩ := bind_inv hF2
    refine cw_mid (fun f w => ∃ (B3 : Option Addr) (B4 : Option Addr) (c3 : Nat), FF f [(1, pt (some ⟨b, 0, none⟩) 0), (4, pt (some ⟨b1, 0, none⟩) 0), (5, pt B3 0)] ∧ ST w0 [] w [⟨some ⟨b, 0, none⟩, 32, [vi m.Rows, vi m.Cols, .slice B m.Cells.length c], 3⟩, ⟨some ⟨b1, 0, none⟩, 59, [.bool m1.bad], 1⟩, ⟨B3, 32, [vi r_4.Rows, vi r_4.Cols, .slice B4 r_4.Cells.length c3], 3⟩, ⟨B4, 49, (r_4.Cells.flatMap enc_Dyadic), c3 * 5⟩] [⟨B, (m.Cells.flatMap enc_Dyadic)⟩]) ?_ ?_
    · skip
      refine ra_start (ST.sel hS3 [0] rfl rfl).fn (by kernel_rfl) ?_
      have hS7 := hS3.drew
      refine ra_q 0 18 (v := pt (some ⟨b1, 0, none⟩) 0) rfl rfl rfl (by kernel_rfl) (by kernel_rfl) (by kernel_rfl) (ST.sel hS7 [0] rfl rfl) (fun w' hw' => (Y_move (v := pt (some ⟨b1, 0, none⟩) 0) rfl rfl)) ?_
      refine ra_q 1 19 (v := .agg #[vi m.Rows, vi m.Cols, .slice B m.Cells.length c]) rfl rfl rfl (by kernel_rfl) (by kernel_rfl) (by kernel_rfl) (ST.sel hS7 [0] rfl rfl) (fun w' hw' => (Y_loadA (B := some ⟨b, 0, none⟩) (i := 0) (cs := [vi m.Rows, vi m.Cols, .slice B m.Cells.length c]) (vs := [vi m.Rows, vi m.Cols, .slice B m.Cells.length c]) k_ag_32 k_sz_32_3 rfl rfl (ST.cf hw' (i := 0) rfl) rfl rfl)) ?_
      refine ra_q 2 20 (v := .agg #[vi m.Rows, vi m.Cols, .slice B m.Cells.length c]) rfl rfl rfl (by kernel_rfl) (by kernel_rfl) (by kernel_rfl) (ST.sel hS7 [0] rfl rfl) (fun w' hw' => (Y_loadA (B := some ⟨b, 0, none⟩) (i := 0) (cs := [vi m.Rows, vi m.Cols, .slice B m.Cells.length c]) (vs := [vi m.Rows, vi m.Cols, .slice B m.Cells.length c]) k_ag_32 k_sz_32_3 rfl rfl (ST.cf hw' (i := 0) rfl) rfl rfl)) ?_
      refine ra_all (rs := [3, 5]) (by kernel_rfl) rfl ?_
      refine ra_c 21 (i := 3) rfl rfl rfl (Yc_func (g := 31) (vs := [.agg #[vi m.Rows, vi m.Cols, .slice B m.Cells.length c]]) k_call_31 rfl (mc rfl mn) (c_spec_l3Adj m B c m.Cells.length _ rfl (hS7.inn0 [(true, 0)] rfl) hc1)) ?_ ?_
      · rintro _ w_3 ⟨B1, c1, rfl, hd1⟩
        have hS8 := hS7.out0 hd1
        have hS8 : ST w0 [] _ [⟨some ⟨b, 0, none⟩, 32, [vi m.Rows, vi m.Cols, .slice B m.Cells.length c], 3⟩, ⟨some ⟨b1, 0, none⟩, 59, [.bool false], 1⟩, ⟨B1, 49, (r_3.Cells.flatMap enc_Dyadic), c1 * 5⟩] [⟨B, (m.Cells.flatMap enc_Dyadic)⟩] := hS8
        refine ⟨(ST.sel hS8 [0] rfl rfl), ?_⟩
        refine ra_all (rs := [4, 5]) (by kernel_rfl) rfl ?_
        refine ra_c 22 (i := 4) rfl rfl rfl (Yc_func (g := 29) (vs := [pt (some ⟨b1, 0, none⟩) 0, .agg #[vi m.Rows, vi m.Cols, .slice B m.Cells.length c], .agg #[vi r_3.Rows, vi r_3.Cols, .slice B1 r_3.Cells.length c1]]) k_call_29 rfl (mc rfl (mc rfl (mc rfl mn))) (c_spec_l2C_times (Tl2C.mk false) m r_3 (some ⟨b1, 0, none⟩) B c m.Cells.length B1 c1 r_3.Cells.length _ rfl rfl (hS8.inn [false, true, false] rfl [(true, 0), (false, 1)] rfl) hc2)) ?_ ?_
        · rintro _ w_4 ⟨B2, c2, rfl, hd2⟩
          have hS9 := hS8.out [false, true, false] rfl hd2
          have hS9 : ST w0 [] _ [⟨some ⟨b, 0, none⟩, 32, [vi m.Rows, vi m.Cols, .slice B m.Cells.length c], 3⟩, ⟨B1, 49, (r_3.Cells.flatMap enc_Dyadic), c1 * 5⟩, ⟨some ⟨b1, 0, none⟩, 59, [.bool m1.bad], 1⟩, ⟨B2, 49, (r_4.Cells.flatMap enc_Dyadic), c2 * 5⟩] [⟨B, (m.Cells.flatMap enc_Dyadic)⟩] := hS9
          refine ⟨(ST.sel hS9 [0] rfl rfl), ?_⟩
          refine ra_all (rs := [5]) (by kernel_rfl) rfl ?_
          refine ra_s 5 (i := 5) rfl rfl rfl (Ys_alloc (T := 32) (cs := [vi 0, vi 0, .slice none 0 0]) (m := 3) hS9 k_zero_32 rfl rfl rfl) ?_ ?_
          · rintro _ w_5 ⟨b2, rfl, hS10⟩
            have hS10 : ST w0 [] _ [⟨some ⟨b, 0, none⟩, 32, [vi m.Rows, vi m.Cols, .slice B m.Cells.length c], 3⟩, ⟨B1, 49, (r_3.Cells.flatMap enc_Dyadic), c1 * 5⟩, ⟨some ⟨b1, 0, none⟩, 59, [.bool m1.bad], 1⟩, ⟨B2, 49, (r_4.Cells.flatMap enc_Dyadic), c2 * 5⟩, ⟨some ⟨b2, 0, none⟩, 32, [vi 0, vi 0, .slice none 0 0], 3⟩] [⟨B, (m.Cells.flatMap enc_Dyadic)⟩] := hS10
            refine ⟨(ST.sel hS10 [0] rfl rfl), ?_⟩
            refine ra_all (rs := [6]) (by kernel_rfl) rfl ?_
            refine ra_s0 (i := 6) rfl rfl rfl (Ys_store (i := 4) (s := 3) (B := some ⟨b2, 0, none⟩) (T' := 32) (v := .agg #[vi r_4.Rows, vi r_4.Cols, .slice B2 r_4.Cells.length c2]) (vs := [vi r_4.Rows, vi r_4.Cols, .slice B2 r_4.Cells.length c2]) (k := 0) (cs' := [vi r_4.Rows, vi r_4.Cols, .slice B2 r_4.Cells.length c2]) hS10 k_sz_32_3 rfl rfl rfl rfl rfl rfl rfl (Nat.le_of_ble_eq_true rfl) rfl rfl) ?_ ?_
            · rintro _ w_6 ⟨rfl, hS11⟩
              have hS11 : ST w0 [] _ [⟨some ⟨b, 0, none⟩, 32, [vi m.Rows, vi m.Cols, .slice B m.Cells.length c], 3⟩, ⟨B1, 49, (r_3.Cells.flatMap enc_Dyadic), c1 * 5⟩, ⟨some ⟨b1, 0, none⟩, 59, [.bool m1.bad], 1⟩, ⟨B2, 49, (r_4.Cells.flatMap enc_Dyadic), c2 * 5⟩, ⟨some ⟨b2, 0, none⟩, 32, [vi r_4.Rows, vi r_4.Cols, .slice B2 r_4.Cells.length c2], 3⟩] [⟨B, (m.Cells.flatMap enc_Dyadic)⟩] := hS11
              refine ⟨(ST.sel hS11 [0] rfl rfl), ?_⟩
              refine ra_done (by kernel_rfl) ?_
              exact ⟨some ⟨b2, 0, none⟩, B2, c2, (FF.cons rfl (FF.cons rfl (FF.cons rfl FF.nil))), (hS11.sel [0, 2, 4, 3] rfl rfl)⟩
            exact allR_nil
          exact allR_nil
        refine ra_s 5 (i := 5) rfl rfl rfl (Ys_alloc (T := 32) (cs := [vi 0, vi 0, .slice none 0 0]) (m := 3) hS8 k_zero_32 rfl rfl rfl) ?_ ?_
        · rintro _ w_7 ⟨b2, rfl, hS12⟩
          have hS12 : ST w0 [] _ [⟨some ⟨b, 0, none⟩, 32, [vi m.Rows, vi m.Cols, .slice B m.Cells.length c], 3⟩, ⟨some ⟨b1, 0, none⟩, 59, [.bool false], 1⟩, ⟨B1, 49, (r_3.Cells.flatMap enc_Dyadic), c1 * 5⟩, ⟨some ⟨b2, 0, none⟩, 32, [vi 0, vi 0, .slice none 0 0], 3⟩] [⟨B, (m.Cells.flatMap enc_Dyadic)⟩] := hS12
          refine ⟨(ST.sel hS12 [0] rfl rfl), ?_⟩
          refine ra_all (rs := [4]) (by kernel_rfl) rfl ?_
          refine ra_c 22 (i := 4) rfl rfl rfl (Yc_func (g := 29) (vs := [pt (some ⟨b1, 0, none⟩) 0, .agg #[vi m.Rows, vi m.Cols, .slice B m.Cells.length c], .agg #[vi r_3.Rows, vi r_3.Cols, .slice B1 r_3.Cells.length c1]]) k_call_29 rfl (mc rfl (mc rfl (mc rfl mn))) (c_spec_l2C_times (Tl2C.mk false) m r_3 (some ⟨b1, 0, none⟩) B c m.Cells.length B1 c1 r_3.Cells.length _ rfl rfl (hS12.inn [false, true, false, false] rfl [(true, 0), (false, 1)] rfl) hc2)) ?_ ?_
          · rintro _ w_8 ⟨B2, c2, rfl, hd3⟩
            have hS13 := hS12.out [false, true, false, false] rfl hd3
            have hS13 : ST w0 [] _ [⟨some ⟨b, 0, none⟩, 32, [vi m.Rows, vi m.Cols, .slice B m.Cells.length c], 3⟩, ⟨B1, 49, (r_3.Cells.flatMap enc_Dyadic), c1 * 5⟩, ⟨some ⟨b2, 0, none⟩, 32, [vi 0, vi 0, .slice none 0 0], 3⟩, ⟨some ⟨b1, 0, none⟩, 59, [.bool m1.bad], 1⟩, ⟨B2, 49, (r_4.Cells.flatMap enc_Dyadic), c2 * 5⟩] [⟨B, (m.Cells.flatMap enc_Dyadic)⟩] := hS13
            refine ⟨(ST.sel hS13 [0] rfl rfl), ?_⟩
            refine ra_all (rs := [6]) (by kernel_rfl) rfl ?_
            refine ra_s0 (i := 6) rfl rfl rfl (Ys_store (i := 2) (s := 3) (B := some ⟨b2, 0, none⟩) (T' := 32) (v := .agg #[vi r_4.Rows, vi r_4.Cols, .slice B2 r_4.Cells.length c2]) (vs := [vi r_4.Rows, vi r_4.Cols, .slice B2 r_4.Cells.length c2]) (k := 0) (cs' := [vi r_4.Rows, vi r_4.Cols, .slice B2 r_4.Cells.length c2]) hS13 k_sz_32_3 rfl rfl rfl rfl rfl rfl rfl (Nat.le_of_ble_eq_true rfl) rfl rfl) ?_ ?_
            · rintro _ w_9 ⟨rfl, hS14⟩
              have hS14 : ST w0 [] _ [⟨some ⟨b, 0, none⟩, 32, [vi m.Rows, vi m.Cols, .slice B m.Cells.length c], 3⟩, ⟨B1, 49, (r_3.Cells.flatMap enc_Dyadic), c1 * 5⟩, ⟨some ⟨b2, 0, none⟩, 32, [vi r_4.Rows, vi r_4.Cols, .slice B2 r_4.Cells.length c2], 3⟩, ⟨some ⟨b1, 0, none⟩, 59, [.bool m1.bad], 1⟩, ⟨B2, 49, (r_4.Cells.flatMap enc_Dyadic), c2 * 5⟩] [⟨B, (m.Cells.flatMap enc_Dyadic)⟩] := hS14
              refine ⟨(ST.sel hS14 [0] rfl rfl), ?_⟩
              refine ra_done (by kernel_rfl) ?_
              exact ⟨some ⟨b2, 0, none⟩, B2, c2, (FF.cons rfl (FF.cons rfl (FF.cons rfl FF.nil))), (hS14.sel [0, 3, 2, 4] rfl rfl)⟩
            exact allR_nil
          exact allR_nil
        exact allR_nil
      refine ra_s 5 (i := 5) rfl rfl rfl (Ys_alloc (T := 32) (cs := [vi 0, vi 0, .slice none 0 0]) (m := 3) hS7 k_zero_32 rfl rfl rfl) ?_ ?_
      · rintro _ w_10 ⟨b2, rfl, hS15⟩
        have hS15 : ST w0 [] _ [⟨some ⟨b, 0, none⟩, 32, [vi m.Rows, vi m.Cols, .slice B m.Cells.length c], 3⟩, ⟨some ⟨b1, 0, none⟩, 59, [.bool false], 1⟩, ⟨some ⟨b2, 0, none⟩, 32, [vi 0, vi 0, .slice none 0 0], 3⟩] [⟨B, (m.Cells.flatMap enc_Dyadic)⟩] := hS15
        refine ⟨(ST.sel hS15 [0] rfl rfl), ?_⟩
        refine ra_all (rs := [3]) (by kernel_rfl) rfl ?_
        refine ra_c 21 (i := 3) rfl rfl rfl (Yc_func (g := 31) (vs := [.agg #[vi m.Rows, vi m.Cols, .slice B m.Cells.length c]]) k_call_31 rfl (mc rfl mn) (c_spec_l3Adj m B c m.Cells.length _ rfl (hS15.inn0 [(true, 0)] rfl) hc1)) ?_ ?_
        · rintro _ w_11 ⟨B1, c1, rfl, hd4⟩
          have hS16 := hS15.out0 hd4
          have hS16 : ST w0 [] _ [⟨some ⟨b, 0, none⟩, 32, [vi m.Rows, vi m.Cols, .slice B m.Cells.length c], 3⟩, ⟨some ⟨b1, 0, none⟩, 59, [.bool false], 1⟩, ⟨some ⟨b2, 0, none⟩, 32, [vi 0, vi 0, .slice none 0 0], 3⟩, ⟨B1, 49, (r_3.Cells.flatMap enc_Dyadic), c1 * 5⟩] [⟨B, (m.Cells.flatMap enc_Dyadic)⟩] := hS16
          refine ⟨(ST.sel hS16 [0] rfl rfl), ?_⟩
          refine ra_all (rs := [4]) (by kernel_rfl) rfl ?_
          refine ra_c 22 (i := 4) rfl rfl rfl (Yc_func (g := 29) (vs := [pt (some ⟨b1, 0, none⟩) 0, .agg #[vi m.Rows, vi m.Cols, .slice B m.Cells.length c], .agg #[vi r_3.Rows, vi r_3.Cols, .slice B1 r_3.Cells.length c1]]) k_call_29 rfl (mc rfl (mc rfl (mc rfl mn))) (c_spec_l2C_times (Tl2C.mk false) m r_3 (some ⟨b1, 0, none⟩) B c m.Cells.length B1 c1 r_3.Cells.length _ rfl rfl (hS16.inn [false, true, false, false] rfl [(true, 0), (false, 2)] rfl) hc2)) ?_ ?_
          · rintro _ w_12 ⟨B2, c2, rfl, hd5⟩
            have hS17 := hS16.out [false, true, false, false] rfl hd5
            have hS17 : ST w0 [] _ [⟨some ⟨b, 0, none⟩, 32, [vi m.Rows, vi m.Cols, .slice B m.Cells.length c], 3⟩, ⟨some ⟨b2, 0, none⟩, 32, [vi 0, vi 0, .slice none 0 0], 3⟩, ⟨B1, 49, (r_3.Cells.flatMap enc_Dyadic), c1 * 5⟩, ⟨some ⟨b1, 0, none⟩, 59, [.bool m1.bad], 1⟩, ⟨B2, 49, (r_4.Cells.flatMap enc_Dyadic), c2 * 5⟩] [⟨B, (m.Cells.flatMap enc_Dyadic)⟩] := hS17
            refine ⟨(ST.sel hS17 [0] rfl rfl), ?_⟩
            refine ra_all (rs := [6]) (by kernel_rfl) rfl ?_
            refine ra_s0 (i := 6) rfl rfl rfl (Ys_store (i := 1) (s := 3) (B := some ⟨b2, 0, none⟩) (T' := 32) (v := .agg #[vi r_4.Rows, vi r_4.Cols, .slice B2 r_4.Cells.length c2]) (vs := [vi r_4.Rows, vi r_4.Cols, .slice B2 r_4.Cells.length c2]) (k := 0) (cs' := [vi r_4.Rows, vi r_4.Cols, .slice B2 r_4.Cells.length c2]) hS17 k_sz_32_3 rfl rfl rfl rfl rfl rfl rfl (Nat.le_of_ble_eq_true rfl) rfl rfl) ?_ ?_
            · rintro _ w_13 ⟨rfl, hS18⟩
              have hS18 : ST w0 [] _ [⟨some ⟨b, 0, none⟩, 32, [vi m.Rows, vi m.Cols, .slice B m.Cells.length c], 3⟩, ⟨some ⟨b2, 0, none⟩, 32, [vi r_4.Rows, vi r_4.Cols, .slice B2 r_4.Cells.length c2], 3⟩, ⟨B1, 49, (r_3.Cells.flatMap enc_Dyadic), c1 * 5⟩, ⟨some ⟨b1, 0, none⟩, 59, [.bool m1.bad], 1⟩, ⟨B2, 49, (r_4.Cells.flatMap enc_Dyadic), c2 * 5⟩] [⟨B, (m.Cells.flatMap enc_Dyadic)⟩] := hS18
              refine ⟨(ST.sel hS18 [0] rfl rfl), ?_⟩
              refine ra_done (by kernel_rfl) ?_
              exact ⟨some ⟨b2, 0, none⟩, B2, c2, (FF.cons rfl (FF.cons rfl (FF.cons rfl FF.nil))), (hS18.sel [0, 3, 1, 4] rfl rfl)⟩
            exact allR_nil
          exact allR_nil
        exact allR_nil
      exact allR_nil
    rintro f w ⟨B3, B4, c3, hf, hS6⟩
    refine cw_seq ?_
    refine cw_seq ?_
    refine cw_region ?_
    refine sq 23 rfl rfl (Y_move (v := pt (some ⟨b1, 0, none⟩) 0) rfl (hf.get 4 1 rfl)) ?_
    refine sq 24 rfl rfl (Y_nilCheck (B := some ⟨b1, 0, none⟩) (i := 0) rfl rfl) ?_
    refine sq 25 rfl rfl (Y_fieldAddr (B := some ⟨b1, 0, none⟩) (i := 0) (s := 0) k_fd_59_0_0_4 k_sz_4_1 rfl rfl) ?_
    refine sq 26 rfl rfl (Y_load1 (B := some ⟨b1, 0, none⟩) (i := 0) (cs := [.bool m1.bad]) (v := .bool m1.bad) k_sc_4 rfl rfl (hS6.cf (i := 1) rfl) rfl) ?_
    refine rw_nil ?_
    refine cw_cond (b := m1.bad) rfl (fun hb1 => ?_) (fun hb1 => ?_)
    · skip
      have hF3 := ct hF2 hb1
      refine cw_seq ?_
      refine cw_region ?_
      refine sq 2 rfl rfl (Y_assign (v := .bool false) rfl rfl) ?_
      refine sq 3 rfl rfl (Y_assign (v := .bool false) rfl rfl) ?_
      refine rw_nil ?_
      refine cw_ret ?_
      obtain ⟨rfl, rfl⟩ := pr2 (some_inj hF3)
      exact ret2 Tryd.results28 (v1 := .bool false) (resAt_tmp rfl) (v2 := .bool false) (resAt_tmp rfl) ⟨rfl, (ST.subR (R' := []) (hS6.sel [] rfl rfl) (fun _ h => by cases h))⟩
    · skip
      have hF4 := cf' hF2 hb1
      refine cw_skip ?_
      refine cw_seq ?_
      obtain ⟨r_5, hc3, hF4⟩ := bind_inv hF4
      obtain ⟨r_6, hc4, hF4⟩ := bind_inv hF4
      refine ra_start (ST.sel hS6 [0, 1, 2, 3] rfl rfl).fn (by kernel_rfl) ?_
      have hS21 := hS6.drew
      refine ra_q 0 27 (v := .agg #[vi r_4.Rows, vi r_4.Cols, .slice B4 r_4.Cells.length c3]) rfl rfl rfl (by kernel_rfl) (by kernel_rfl) (by kernel_rfl) (ST.sel hS21 [0, 1, 2, 3] rfl rfl) (fun w' hw' => (Y_loadA (B := B3) (i := 0) (cs := [vi r_4.Rows, vi r_4.Cols, .slice B4 r_4.Cells.length c3]) (vs := [vi r_4.Rows, vi r_4.Cols, .slice B4 r_4.Cells.length c3]) k_ag_32 k_sz_32_3 rfl (hf.get 5 2 rfl) (ST.cf hw' (i := 2) rfl) rfl rfl)) ?_
      refine ra_q 1 28 (v := pt (some ⟨b, 0, none⟩) 0) rfl rfl rfl (by kernel_rfl) (by kernel_rfl) (by kernel_rfl) (ST.sel hS21 [0, 1, 2, 3] rfl rfl) (fun w' hw' => (Y_fieldAddr (B := some ⟨b, 0, none⟩) (i := 0) (s := 0) k_fd_32_0_0_3 k_sz_3_1 rfl (hf.get 1 0 rfl))) ?_
      refine ra_q 2 29 (v := vi m.Rows) rfl rfl rfl (by kernel_rfl) (by kernel_rfl) (by kernel_rfl) (ST.sel hS21 [0, 1, 2, 3] rfl rfl) (fun w' hw' => (Y_load1 (B := some ⟨b, 0, none⟩) (i := 0) (cs := [vi m.Rows, vi m.Cols, .slice B m.Cells.length c]) (v := vi m.Rows) k_sc_3 rfl rfl (ST.cf hw' (i := 0) rfl) rfl)) ?_
      refine ra_all (rs := [3]) (by kernel_rfl) rfl ?_
      refine ra_c 30 (i := 3) rfl rfl rfl (Yc_func (g := 49) (vs := [vi m.Rows]) k_call_49 rfl (mc rfl mn) (c_spec_l3Unit m.Rows _  (hS21.inn0 [] rfl) hc3)) ?_ ?_
      · rintro _ w_14 ⟨B5, c4, rfl, hd6⟩
        have hS22 := hS21.out0 hd6
        have hS22 : ST w0 [] _ [⟨some ⟨b, 0, none⟩, 32, [vi m.Rows, vi m.Cols, .slice B m.Cells.length c], 3⟩, ⟨some ⟨b1, 0, none⟩, 59, [.bool m1.bad], 1⟩, ⟨B3, 32, [vi r_4.Rows, vi r_4.Cols, .slice B4 r_4.Cells.length c3], 3⟩, ⟨B4, 49, (r_4.Cells.flatMap enc_Dyadic), c3 * 5⟩, ⟨B5, 49, (r_5.Cells.flatMap enc_Dyadic), c4 * 5⟩] [⟨B, (m.Cells.flatMap enc_Dyadic)⟩] := hS22
        refine ⟨(ST.sel hS22 [0, 1, 2, 3] rfl rfl), ?_⟩
        refine ra_all (rs := [4]) (by kernel_rfl) rfl ?_
        refine ra_c 31 (i := 4) rfl rfl rfl (Yc_func (g := 48) (vs := [.agg #[vi r_4.Rows, vi r_4.Cols, .slice B4 r_4.Cells.length c3], .agg #[vi r_5.Rows, vi r_5.Cols, .slice B5 r_5.Cells.length c4]]) k_call_48 rfl (mc rfl (mc rfl mn)) (c_spec_EqualMatrices r_4 r_5 B4 c3 r_4.Cells.length B5 c4 r_5.Cells.length _ rfl rfl (hS22.inn0 [(false, 3), (false, 4)] rfl) hc4)) ?_ ?_
        · rintro _ w_15 ⟨rfl, hd7⟩
          have hS23 := hS22.out00 hd7
          have hS23 : ST w0 [] _ [⟨some ⟨b, 0, none⟩, 32, [vi m.Rows, vi m.Cols, .slice B m.Cells.length c], 3⟩, ⟨some ⟨b1, 0, none⟩, 59, [.bool m1.bad], 1⟩, ⟨B3, 32, [vi r_4.Rows, vi r_4.Cols, .slice B4 r_4.Cells.length c3], 3⟩, ⟨B4, 49, (r_4.Cells.flatMap enc_Dyadic), c3 * 5⟩, ⟨B5, 49, (r_5.Cells.flatMap enc_Dyadic), c4 * 5⟩] [⟨B, (m.Cells.flatMap enc_Dyadic)⟩] := hS23
          refine ⟨(ST.sel hS23 [0, 1, 2, 3] rfl rfl), ?_⟩
          refine ra_q 5 2 (v := .bool r_6) rfl rfl rfl (by kernel_rfl) (by kernel_rfl) (by kernel_rfl) (ST.sel hS23 [0, 1, 2, 3] rfl rfl) (fun w' hw' => (Y_assign (v := .bool r_6) rfl rfl)) ?_
          refine ra_q 6 3 (v := .bool true) rfl rfl rfl (by kernel_rfl) (by kernel_rfl) (by kernel_rfl) (ST.sel hS23 [0, 1, 2, 3] rfl rfl) (fun w' hw' => (Y_assign (v := .bool true) rfl rfl)) ?_
          refine ra_done (by kernel_rfl) ?_
          refine cw_ret ?_
          obtain ⟨rfl, rfl⟩ := pr2 (some_inj hF4)
          exact ret2 Tryd.results28 (v1 := .bool r_6) (resAt_tmp rfl) (v2 := .bool true) (resAt_tmp rfl) ⟨rfl, (ST.subR (R' := []) (hS23.sel [] rfl rfl) (fun _ h => by cases h))⟩
        exact allR_nil
      exact allR_nil

theorem c_spec_l9Good (m : TMatrix) (B : Option Addr) (c n : Nat) (w0 : World) (hn : m.Cells.length = n) (hS : ST w0 [] w0 [] [⟨B, (m.Cells.flatMap enc_Dyadic)⟩]) {r_ : Bool} (hF : F_spec_l9Good m = some r_) :
    CV Tryd.prog 17 #[.agg #[vi m.Rows, vi m.Cols, .slice B n c]] w0 (fun v w' => v = .bool r_ ∧ ST w0 [] w' [] []) := by
  subst hn
  unfold F_spec_l9Good at hF
  refine cv_of_cw 19 Tryd.func17 rfl Tryd.ntmps17 rfl ?_
  refine cw_seq ?_
  refine cw_region ?_
  refine ss 1 rfl rfl (Ys_box (T := 32) (v := .agg #[vi m.Rows, vi m.Cols, .slice B m.Cells.length c]) (cs := [vi m.Rows, vi m.Cols, .slice B m.Cells.length c]) (m := 3) hS rfl rfl rfl rfl) ?_
  rintro _ w_ ⟨b, rfl, hS1⟩
  refine sq 2 rfl rfl (Y_assign (v := .bool false) rfl rfl) ?_
  refine rw_nil ?_
  refine cw_seq ?_
  refine cw_region ?_
  refine sq 6 rfl rfl (Y_loadA (B := some ⟨b, 0, none⟩) (i := 0) (cs := [vi m.Rows, vi m.Cols, .slice B m.Cells.length c]) (vs := [vi m.Rows, vi m.Cols, .slice B m.Cells.length c]) k_ag_32 k_sz_32_3 rfl rfl (hS1.cf (i := 0) rfl) rfl rfl) ?_
  obtain ⟨⟨r_1, r_2⟩, hc, hF⟩ := bind_inv hF
  refine sc 7 rfl rfl (Yc_func (g := 28) (vs := [.agg #[vi m.Rows, vi m.Cols, .slice B m.Cells.length c]]) k_call_28 rfl (mc rfl mn) (c_spec_IsUnitary m B c m.Cells.length _ rfl (hS1.inn0 [(true, 0)] rfl) hc)) ?_
  rintro _ w_1 ⟨rfl, hd⟩
  have hS2 := hS1.out00 hd
  refine sq 5 rfl rfl (Y_move (v := .tuple #[.bool r_1, .bool r_2]) rfl rfl) ?_
  refine sq 8 rfl rfl (Y_extract (v := .bool r_1) rfl rfl rfl) ?_
  refine sq 9 rfl rfl (Y_extract (v := .bool r_2) rfl rfl rfl) ?_
  refine sq 3 rfl rfl (Y_assign (v := .bool r_1) rfl rfl) ?_
  refine sq 4 rfl rfl (Y_assign (v := .bool r_2) rfl rfl) ?_
  refine rw_nil ?_
  refine cw_seq ?_
  refine cw_region ?_
  refine sq 10 rfl rfl (Y_move (v := .bool r_2) rfl rfl) ?_
  refine sq 11 rfl rfl (Y_move (v := .bool r_2) rfl rfl) ?_
  refine sgq 12 (B := r_2) (v := .bool r_1) rfl rfl (wt_t (gd_of (t := 11) (by kernel_rfl) rfl)) (fun hg => (Y_move (v := .bool r_1) rfl rfl)) ?_
  refine sq 13 rfl rfl (Y_and (b := r_2) (z := r_1) rfl rfl rfl rfl) ?_
  refine sq 14 rfl rfl (Y_move (v := .bool (r_2 && r_1)) rfl rfl) ?_
  refine sgq 15 (B := (r_2 && r_1)) (v := pt (some ⟨b, 0, none⟩) 0) rfl rfl (wt_t (gd_of (t := 14) (by kernel_rfl) rfl)) (fun hg1 => (Y_fieldAddr (B := some ⟨b, 0, none⟩) (i := 0) (s := 0) k_fd_32_0_0_3 k_sz_3_1 rfl rfl)) ?_
  refine sgq 16 (B := (r_2 && r_1)) (v := vi m.Rows) rfl rfl (wt_t (gd_of (t := 14) (by kernel_rfl) rfl)) (fun hg2 => (Y_load1 (B := some ⟨b, 0, none⟩) (i := 0) (cs := [vi m.Rows, vi m.Cols, .slice B m.Cells.length c]) (v := vi m.Rows) k_sc_3 rfl (gv_of (B := (r_2 && r_1)) (v := pt (some ⟨b, 0, none⟩) 0) hg2) (hS2.cf (i := 0) rfl) rfl)) ?_
  refine sgq 17 (B := (r_2 && r_1)) (v := .bool (m.Rows == 2)) rfl rfl (wt_t (gd_of (t := 14) (by kernel_rfl) rfl)) (fun hg3 => (Y_eq (k := .i64) (a := m.Rows) (b := 2) rfl (gv_of (B := (r_2 && r_1)) (v := vi m.Rows) hg3) rfl)) ?_
  refine sq 18 rfl rfl (Y_and (b := (r_2 && r_1)) (z := (m.Rows == 2)) rfl rfl rfl rfl) ?_
  refine sq 2 rfl rfl (Y_assign (v := .bool ((r_2 && r_1) && (m.Rows == 2))) rfl rfl) ?_
  refine rw_nil ?_
  refine cw_ret ?_
  obtain rfl := some_inj hF
  exact ret1 Tryd.results17 (v1 := .bool ((r_2 && r_1) && (m.Rows == 2))) (resAt_tmp rfl) ⟨rfl, (ST.subR (R' := []) (hS2.sel [] rfl rfl) (fun _ h => by cases h))⟩

theorem c_spec_l1Neg (x : TRing)  (w0 : World)  (hS : ST w0 [] w0 [] []) {r_ : TRing} (hF : F_spec_l1Neg x = some r_) :
    CV Tryd.prog 102 #[.agg #[vi x.A, vi x.B, vi x.C, vi x.D]] w0 (fun v w' => v = .agg #[vi r_.A, vi r_.B, vi r_.C, vi r_.D] ∧ ST w0 [] w' [] []) := by
  unfold F_spec_l1Neg at hF
  refine cv_of_cw 16 Tryd.func102 rfl Tryd.ntmps102 rfl ?_
  refine cw_seq ?_
  refine cw_region ?_
  refine ss 1 rfl rfl (Ys_box (T := 47) (v := .agg #[vi x.A, vi x.B, vi x.C, vi x.D]) (cs := [vi x.A, vi x.B, vi x.C, vi x.D]) (m := 4) hS rfl rfl rfl rfl) ?_
  rintro _ w_ ⟨b, rfl, hS1⟩
  refine ss 2 rfl rfl (Ys_alloc (T := 47) (cs := [vi 0, vi 0, vi 0, vi 0]) (m := 4) hS1 k_zero_47 rfl rfl rfl) ?_
  rintro _ w_1 ⟨b1, rfl, hS2⟩
  have hS2 : ST w0 [] _ [⟨some ⟨b, 0, none⟩, 47, [vi x.A, vi x.B, vi x.C, vi x.D], 4⟩, ⟨some ⟨b1, 0, none⟩, 47, [vi 0, vi 0, vi 0, vi 0], 4⟩] [] := hS2
  refine rw_nil ?_
  refine cw_seq ?_
  refine cw_region ?_
  refine sq 3 rfl rfl (Y_fieldAddr (B := some ⟨b, 0, none⟩) (i := 0) (s := 0) k_fd_47_0_0_3 k_sz_3_1 rfl rfl) ?_
  refine sq 4 rfl rfl (Y_load1 (B := some ⟨b, 0, none⟩) (i := 0) (cs := [vi x.A, vi x.B, vi x.C, vi x.D]) (v := vi x.A) k_sc_3 rfl rfl (hS2.cf (i := 0) rfl) rfl) ?_
  refine sq 5 rfl rfl (Y_neg (k := .i64) (a := x.A) rfl rfl) ?_
  refine sq 6 rfl rfl (Y_fieldAddr (B := some ⟨b, 0, none⟩) (i := 0) (s := 0) k_fd_47_1_1_3 k_sz_3_1 rfl rfl) ?_
  refine sq 7 rfl rfl (Y_load1 (B := some ⟨b, 0, none⟩) (i := 1) (cs := [vi x.A, vi x.B, vi x.C, vi x.D]) (v := vi x.B) k_sc_3 rfl rfl (hS2.cf (i := 0) rfl) rfl) ?_
  refine sq 8 rfl rfl (Y_neg (k := .i64) (a := x.B) rfl rfl) ?_
  refine sq 9 rfl rfl (Y_fieldAddr (B := some ⟨b, 0, none⟩) (i := 0) (s := 0) k_fd_47_2_2_3 k_sz_3_1 rfl rfl) ?_
  refine sq 10 rfl rfl (Y_load1 (B := some ⟨b, 0, none⟩) (i := 2) (cs := [vi x.A, vi x.B, vi x.C, vi x.D]) (v := vi x.C) k_sc_3 rfl rfl (hS2.cf (i := 0) rfl) rfl) ?_
  refine sq 11 rfl rfl (Y_neg (k := .i64) (a := x.C) rfl rfl) ?_
  refine sq 12 rfl rfl (Y_fieldAddr (B := some ⟨b, 0, none⟩) (i := 0) (s := 0) k_fd_47_3_3_3 k_sz_3_1 rfl rfl) ?_
  refine sq 13 rfl rfl (Y_load1 (B := some ⟨b, 0, none⟩) (i := 3) (cs := [vi x.A, vi x.B, vi x.C, vi x.D]) (v := vi x.D) k_sc_3 rfl rfl (hS2.cf (i := 0) rfl) rfl) ?_
  refine sq 14 rfl rfl (Y_neg (k := .i64) (a := x.D) rfl rfl) ?_
  refine sq 15 rfl rfl (Y_buildS (zs := [vi 0, vi 0, vi 0, vi 0]) (vs := [(0, vi (i64.wrap (-x.A))), (1, vi (i64.wrap (-x.B))), (2, vi (i64.wrap (-x.C))), (3, vi (i64.wrap (-x.D)))]) (cs := [vi (i64.wrap (-x.A)), vi (i64.wrap (-x.B)), vi (i64.wrap (-x.C)), vi (i64.wrap (-x.D))]) k_pl_47 k_zero_47 rfl (mpc rfl (mpc rfl (mpc rfl (mpc rfl mpn)))) rfl) ?_
  refine ss0 rfl rfl (Ys_store (i := 1) (s := 4) (B := some ⟨b1, 0, none⟩) (T' := 47) (v := .agg #[vi (i64.wrap (-x.A)), vi (i64.wrap (-x.B)), vi (i64.wrap (-x.C)), vi (i64.wrap (-x.D))]) (vs := [vi (i64.wrap (-x.A)), vi (i64.wrap (-x.B)), vi (i64.wrap (-x.C)), vi (i64.wrap (-x.D))]) (k := 0) (cs' := [vi (i64.wrap (-x.A)), vi (i64.wrap (-x.B)), vi (i64.wrap (-x.C)), vi (i64.wrap (-x.D))]) hS2 k_sz_47_4 rfl rfl rfl rfl rfl rfl rfl (Nat.le_of_ble_eq_true rfl) rfl rfl) ?_
  rintro _ w_2 ⟨rfl, hS3⟩
  have hS3 : ST w0 [] _ [⟨some ⟨b, 0, none⟩, 47, [vi x.A, vi x.B, vi x.C, vi x.D], 4⟩, ⟨some ⟨b1, 0, none⟩, 47, [vi (i64.wrap (-x.A)), vi (i64.wrap (-x.B)), vi (i64.wrap (-x.C)), vi (i64.wrap (-x.D))], 4⟩] [] := hS3
  refine rw_nil ?_
  refine cw_ret ?_
  obtain rfl := some_inj hF
  exact ret1 Tryd.results102 (v1 := .agg #[vi (i64.wrap (-x.A)), vi (i64.wrap (-x.B)), vi (i64.wrap (-x.C)), vi (i64.wrap (-x.D))]) (resAt_cellA (B := some ⟨b1, 0, none⟩) (i := 0) (cs := [vi (i64.wrap (-x.A)), vi (i64.wrap (-x.B)), vi (i64.wrap (-x.C)), vi (i64.wrap (-x.D))]) (vs := [vi (i64.wrap (-x.A)), vi (i64.wrap (-x.B)), vi (i64.wrap (-x.C)), vi (i64.wrap (-x.D))]) rfl k_ag_47 k_sz_47_4 (hS3.cf (i := 1) rfl) rfl rfl) ⟨rfl, (ST.subR (R' := []) (hS3.sel [] rfl rfl) (fun _ h => by cases h))⟩

theorem c_spec_l2Neg (x : TDyadic)  (w0 : World)  (hS : ST w0 [] w0 [] []) {r_ : TDyadic} (hF : F_spec_l2Neg x = some r_) :
    CV Tryd.prog 82 #[.agg #[vi x.Num.A, vi x.Num.B, vi x.Num.C, vi x.Num.D, vi x.Exp]] w0 (fun v w' => v = .agg #[vi r_.Num.A, vi r_.Num.B, vi r_.Num.C, vi r_.Num.D, vi r_.Exp] ∧ ST w0 [] w' [] []) := by
  unfold F_spec_l2Neg at hF
  refine cv_of_cw 9 Tryd.func82 rfl Tryd.ntmps82 rfl ?_
  refine cw_seq ?_
  refine cw_region ?_
  refine ss 1 rfl rfl (Ys_box (T := 49) (v := .agg #[vi x.Num.A, vi x.Num.B, vi x.Num.C, vi x.Num.D, vi x.Exp]) (cs := [vi x.Num.A, vi x.Num.B, vi x.Num.C, vi x.Num.D, vi x.Exp]) (m := 5) hS rfl rfl rfl rfl) ?_
  rintro _ w_ ⟨b, rfl, hS1⟩
  refine ss 2 rfl rfl (Ys_alloc (T := 49) (cs := [vi 0, vi 0, vi 0, vi 0, vi 0]) (m := 5) hS1 k_zero_49 rfl rfl rfl) ?_
  rintro _ w_1 ⟨b1, rfl, hS2⟩
  have hS2 : ST w0 [] _ [⟨some ⟨b, 0, none⟩, 49, [vi x.Num.A, vi x.Num.B, vi x.Num.C, vi x.Num.D, vi x.Exp], 5⟩, ⟨some ⟨b1, 0, none⟩, 49, [vi 0, vi 0, vi 0, vi 0, vi 0], 5⟩] [] := hS2
  refine rw_nil ?_
  refine cw_seq ?_
  obtain ⟨r_1, hc, hF⟩ := bind_inv hF
  refine ra_start (ST.sel hS2 [0] rfl rfl).fn (by kernel_rfl) ?_
  have hS4 := hS2.drew
  refine ra_q 0 3 (v := pt (some ⟨b, 0, none⟩) 0) rfl rfl rfl (by kernel_rfl) (by kernel_rfl) (by kernel_rfl) (ST.sel hS4 [0] rfl rfl) (fun w' hw' => (Y_fieldAddr (B := some ⟨b, 0, none⟩) (i := 0) (s := 3) k_fd_49_0_0_47 k_sz_47_4 rfl rfl)) ?_
  refine ra_q 1 4 (v := .agg #[vi x.Num.A, vi x.Num.B, vi x.Num.C, vi x.Num.D]) rfl rfl rfl (by kernel_rfl) (by kernel_rfl) (by kernel_rfl) (ST.sel hS4 [0] rfl rfl) (fun w' hw' => (Y_loadA (B := some ⟨b, 0, none⟩) (i := 0) (cs := [vi x.Num.A, vi x.Num.B, vi x.Num.C, vi x.Num.D, vi x.Exp]) (vs := [vi x.Num.A, vi x.Num.B, vi x.Num.C, vi x.Num.D]) k_ag_47 k_sz_47_4 rfl rfl (ST.cf hw' (i := 0) rfl) rfl rfl)) ?_
  refine ra_q 3 6 (v := pt (some ⟨b, 0, none⟩) 4) rfl rfl rfl (by kernel_rfl) (by kernel_rfl) (by kernel_rfl) (ST.sel hS4 [0] rfl rfl) (fun w' hw' => (Y_fieldAddr (B := some ⟨b, 0, none⟩) (i := 0) (s := 0) k_fd_49_1_4_3 k_sz_3_1 rfl rfl)) ?_
  refine ra_q 4 7 (v := vi x.Exp) rfl rfl rfl (by kernel_rfl) (by kernel_rfl) (by kernel_rfl) (ST.sel hS4 [0] rfl rfl) (fun w' hw' => (Y_load1 (B := some ⟨b, 0, none⟩) (i := 4) (cs := [vi x.Num.A, vi x.Num.B, vi x.Num.C, vi x.Num.D, vi x.Exp]) (v := vi x.Exp) k_sc_3 rfl rfl (ST.cf hw' (i := 0) rfl) rfl)) ?_
  refine ra_all (rs := [2]) (by kernel_rfl) rfl ?_
  refine ra_c 5 (i := 2) rfl rfl rfl (Yc_func (g := 102) (vs := [.agg #[vi x.Num.A, vi x.Num.B, vi x.Num.C, vi x.Num.D]]) k_call_102 rfl (mc rfl mn) (c_spec_l1Neg x.Num _  (hS4.inn0 [] rfl) hc)) ?_ ?_
  · rintro _ w_2 ⟨rfl, hd⟩
    have hS5 := hS4.out00 hd
    have hS5 : ST w0 [] _ [⟨some ⟨b, 0, none⟩, 49, [vi x.Num.A, vi x.Num.B, vi x.Num.C, vi x.Num.D, vi x.Exp], 5⟩, ⟨some ⟨b1, 0, none⟩, 49, [vi 0, vi 0, vi 0, vi 0, vi 0], 5⟩] [] := hS5
    refine ⟨(ST.sel hS5 [0] rfl rfl), ?_⟩
    refine ra_q 5 8 (v := .agg #[vi r_1.A, vi r_1.B, vi r_1.C, vi r_1.D, vi x.Exp]) rfl rfl rfl (by kernel_rfl) (by kernel_rfl) (by kernel_rfl) (ST.sel hS5 [0] rfl rfl) (fun w' hw' => (Y_buildS (zs := [vi 0, vi 0, vi 0, vi 0, vi 0]) (vs := [(0, .agg #[vi r_1.A, vi r_1.B, vi r_1.C, vi r_1.D]), (1, vi x.Exp)]) (cs := [vi r_1.A, vi r_1.B, vi r_1.C, vi r_1.D, vi x.Exp]) k_pl_49 k_zero_49 rfl (mpc rfl (mpc rfl mpn)) rfl)) ?_
    refine ra_all (rs := [6]) (by kernel_rfl) rfl ?_
    refine ra_s0 (i := 6) rfl rfl rfl (Ys_store (i := 1) (s := 5) (B := some ⟨b1, 0, none⟩) (T' := 49) (v := .agg #[vi r_1.A, vi r_1.B, vi r_1.C, vi r_1.D, vi x.Exp]) (vs := [vi r_1.A, vi r_1.B, vi r_1.C, vi r_1.D, vi x.Exp]) (k := 0) (cs' := [vi r_1.A, vi r_1.B, vi r_1.C, vi r_1.D, vi x.Exp]) hS5 k_sz_49_5 rfl rfl rfl rfl rfl rfl rfl (Nat.le_of_ble_eq_true rfl) rfl rfl) ?_ ?_
    · rintro _ w_3 ⟨rfl, hS6⟩
      have hS6 : ST w0 [] _ [⟨some ⟨b, 0, none⟩, 49, [vi x.Num.A, vi x.Num.B, vi x.Num.C, vi x.Num.D, vi x.Exp], 5⟩, ⟨some ⟨b1, 0, none⟩, 49, [vi r_1.A, vi r_1.B, vi r_1.C, vi r_1.D, vi x.Exp], 5⟩] [] := hS6
      refine ⟨(ST.sel hS6 [0] rfl rfl), ?_⟩
      refine ra_done (by kernel_rfl) ?_
      refine cw_ret ?_
      obtain rfl := some_inj hF
      exact ret1 Tryd.results82 (v1 := .agg #[vi r_1.A, vi r_1.B, vi r_1.C, vi r_1.D, vi x.Exp]) (resAt_cellA (B := some ⟨b1, 0, none⟩) (i := 0) (cs := [vi r_1.A, vi r_1.B, vi r_1.C, vi r_1.D, vi x.Exp]) (vs := [vi r_1.A, vi r_1.B, vi r_1.C, vi r_1.D, vi x.Exp]) rfl k_ag_49 k_sz_49_5 (hS6.cf (i := 1) rfl) rfl rfl) ⟨rfl, (ST.subR (R' := []) (hS6.sel [] rfl rfl) (fun _ h => by cases h))⟩
    exact allR_nil
  exact allR_nil

theorem c_spec_l6One (kind : Int)  (w0 : World)  (hS : ST w0 [] w0 [] []) {r_ : List TDyadic} (hF : F_spec_l6One kind = some r_) :
    CV Tryd.prog 50 #[vi kind] w0 (fun v w' => ∃ (B : Option Addr) (c : Nat), v = .slice B r_.length c ∧ ST w0 [] w' [⟨B, 49, (r_.flatMap enc_Dyadic), c * 5⟩] []) := by
  unfold F_spec_l6One at hF
  refine cv_of_cw 43 Tryd.func50 rfl Tryd.ntmps50 rfl ?_
  refine cw_seq ?_
  refine cw_region ?_
  refine sq 2 rfl rfl (Y_assign (v := .slice none 0 0) rfl rfl) ?_
  refine rw_nil ?_
  refine cw_seq ?_
  refine cw_region ?_
  obtain ⟨r_1, hc, hF⟩ := bind_inv hF
  refine sc 6 rfl rfl (Yc_func (g := 81) (vs := [vi 0]) k_call_81 rfl (mc rfl mn) (c_spec_l2Power 0 _  (hS.inn0 [] rfl) hc)) ?_
  rintro _ w_ ⟨rfl, hd⟩
  have hS1 := hS.out00 hd
  refine sq 7 rfl rfl (Y_buildS (zs := [vi 0, vi 0, vi 0, vi 0, vi 0]) (vs := []) (cs := [vi 0, vi 0, vi 0, vi 0, vi 0]) k_pl_49 k_zero_49 rfl mpn rfl) ?_
  refine ss 3 rfl rfl (Ys_alloc (T := 49) (cs := [vi 0, vi 0, vi 0, vi 0, vi 0]) (m := 5) hS1 k_zero_49 rfl rfl rfl) ?_
  rintro _ w_1 ⟨b, rfl, hS2⟩
  refine ss 4 rfl rfl (Ys_alloc (T := 49) (cs := [vi 0, vi 0, vi 0, vi 0, vi 0]) (m := 5) hS2 k_zero_49 rfl rfl rfl) ?_
  rintro _ w_2 ⟨b1, rfl, hS3⟩
  have hS3 : ST w0 [] _ [⟨some ⟨b, 0, none⟩, 49, [vi 0, vi 0, vi 0, vi 0, vi 0], 5⟩, ⟨some ⟨b1, 0, none⟩, 49, [vi 0, vi 0, vi 0, vi 0, vi 0], 5⟩] [] := hS3
  refine ss0 rfl rfl (Ys_store (i := 0) (s := 5) (B := some ⟨b, 0, none⟩) (T' := 49) (v := .agg #[vi r_1.Num.A, vi r_1.Num.B, vi r_1.Num.C, vi r_1.Num.D, vi r_1.Exp]) (vs := [vi r_1.Num.A, vi r_1.Num.B, vi r_1.Num.C, vi r_1.Num.D, vi r_1.Exp]) (k := 0) (cs' := [vi r_1.Num.A, vi r_1.Num.B, vi r_1.Num.C, vi r_1.Num.D, vi r_1.Exp]) hS3 k_sz_49_5 rfl rfl rfl rfl rfl rfl rfl (Nat.le_of_ble_eq_true rfl) rfl rfl) ?_
  rintro _ w_3 ⟨rfl, hS4⟩
  have hS4 : ST w0 [] _ [⟨some ⟨b, 0, none⟩, 49, [vi r_1.Num.A, vi r_1.Num.B, vi r_1.Num.C, vi r_1.Num.D, vi r_1.Exp], 5⟩, ⟨some ⟨b1, 0, none⟩, 49, [vi 0, vi 0, vi 0, vi 0, vi 0], 5⟩] [] := hS4
  refine ss0 rfl rfl (Ys_store (i := 1) (s := 5) (B := some ⟨b1, 0, none⟩) (T' := 49) (v := .agg #[vi 0, vi 0, vi 0, vi 0, vi 0]) (vs := [vi 0, vi 0, vi 0, vi 0, vi 0]) (k := 0) (cs' := [vi 0, vi 0, vi 0, vi 0, vi 0]) hS4 k_sz_49_5 rfl rfl rfl rfl rfl rfl rfl (Nat.le_of_ble_eq_true rfl) rfl rfl) ?_
  rintro _ w_4 ⟨rfl, hS5⟩
  have hS5 : ST w0 [] _ [⟨some ⟨b, 0, none⟩, 49, [vi r_1.Num.A, vi r_1.Num.B, vi r_1.Num.C, vi r_1.Num.D, vi r_1.Exp], 5⟩, ⟨some ⟨b1, 0, none⟩, 49, [vi 0, vi 0, vi 0, vi 0, vi 0], 5⟩] [] := hS5
  refine rw_nil ?_
  refine cw_seq ?_
  refine cw_region ?_
  refine sq 8 rfl rfl (Y_buildS (zs := [vi 0, vi 0, vi 0, vi 0]) (vs := [(0, vi 1)]) (cs := [vi 1, vi 0, vi 0, vi 0]) k_pl_47 k_zero_47 rfl (mpc rfl mpn) rfl) ?_
  refine sq 9 rfl rfl (Y_buildS (zs := [vi 0, vi 0, vi 0, vi 0, vi 0]) (vs := [(0, .agg #[vi 1, vi 0, vi 0, vi 0]), (1, vi 1)]) (cs := [vi 1, vi 0, vi 0, vi 0, vi 1]) k_pl_49 k_zero_49 rfl (mpc rfl (mpc rfl mpn)) rfl) ?_
  refine ss 5 rfl rfl (Ys_alloc (T := 49) (cs := [vi 0, vi 0, vi 0, vi 0, vi 0]) (m := 5) hS5 k_zero_49 rfl rfl rfl) ?_
  rintro _ w_5 ⟨b2, rfl, hS6⟩
  have hS6 : ST w0 [] _ [⟨some ⟨b, 0, none⟩, 49, [vi r_1.Num.A, vi r_1.Num.B, vi r_1.Num.C, vi r_1.Num.D, vi r_1.Exp], 5⟩, ⟨some ⟨b1, 0, none⟩, 49, [vi 0, vi 0, vi 0, vi 0, vi 0], 5⟩, ⟨some ⟨b2, 0, none⟩, 49, [vi 0, vi 0, vi 0, vi 0, vi 0], 5⟩] [] := hS6
  refine ss0 rfl rfl (Ys_store (i := 2) (s := 5) (B := some ⟨b2, 0, none⟩) (T' := 49) (v := .agg #[vi 1, vi 0, vi 0, vi 0, vi 1]) (vs := [vi 1, vi 0, vi 0, vi 0, vi 1]) (k := 0) (cs' := [vi 1, vi 0, vi 0, vi 0, vi 1]) hS6 k_sz_49_5 rfl rfl rfl rfl rfl rfl rfl (Nat.le_of_ble_eq_true rfl) rfl rfl) ?_
  rintro _ w_6 ⟨rfl, hS7⟩
  have hS7 : ST w0 [] _ [⟨some ⟨b, 0, none⟩, 49, [vi r_1.Num.A, vi r_1.Num.B, vi r_1.Num.C, vi r_1.Num.D, vi r_1.Exp], 5⟩, ⟨some ⟨b1, 0, none⟩, 49, [vi 0, vi 0, vi 0, vi 0, vi 0], 5⟩, ⟨some ⟨b2, 0, none⟩, 49, [vi 1, vi 0, vi 0, vi 0, vi 1], 5⟩] [] := hS7
  refine rw_nil ?_
  refine cw_seq ?_
  refine cw_seq ?_
  refine cw_region ?_
  refine sq 10 rfl rfl (Y_move (v := vi kind) rfl rfl) ?_
  refine rw_nil ?_
  refine cw_block ?_
  refine cw_seq ?_
  refine cw_region ?_
  refine sq 12 rfl rfl (Y_eq (k := .i64) (a := kind) (b := 1) rfl rfl rfl) ?_
  refine sq 11 rfl rfl (Y_assign (v := .bool (kind == 1)) rfl rfl) ?_
  refine rw_nil ?_
  refine cw_cond (b := (kind == 1)) rfl (fun hb => ?_) (fun hb => ?_)
  · skip
    have hF1 := ct hF hb
    refine cw_seq ?_
    obtain ⟨r_2, hc1, hF1⟩ := bind_inv hF1
    refine ra_start (ST.sel hS7 [0, 1, 2] rfl rfl).fn (by kernel_rfl) ?_
    have hS9 := hS7.drew
    refine ra_q 0 13 (v := .agg #[vi 1, vi 0, vi 0, vi 0, vi 1]) rfl rfl rfl (by kernel_rfl) (by kernel_rfl) (by kernel_rfl) (ST.sel hS9 [0, 1, 2] rfl rfl) (fun w' hw' => (Y_loadA (B := some ⟨b2, 0, none⟩) (i := 0) (cs := [vi 1, vi 0, vi 0, vi 0, vi 1]) (vs := [vi 1, vi 0, vi 0, vi 0, vi 1]) k_ag_49 k_sz_49_5 rfl rfl (ST.cf hw' (i := 2) rfl) rfl rfl)) ?_
    refine ra_q 1 14 (v := .agg #[vi 1, vi 0, vi 0, vi 0, vi 1]) rfl rfl rfl (by kernel_rfl) (by kernel_rfl) (by kernel_rfl) (ST.sel hS9 [0, 1, 2] rfl rfl) (fun w' hw' => (Y_loadA (B := some ⟨b2, 0, none⟩) (i := 0) (cs := [vi 1, vi 0, vi 0, vi 0, vi 1]) (vs := [vi 1, vi 0, vi 0, vi 0, vi 1]) k_ag_49 k_sz_49_5 rfl rfl (ST.cf hw' (i := 2) rfl) rfl rfl)) ?_
    refine ra_q 2 15 (v := .agg #[vi 1, vi 0, vi 0, vi 0, vi 1]) rfl rfl rfl (by kernel_rfl) (by kernel_rfl) (by kernel_rfl) (ST.sel hS9 [0, 1, 2] rfl rfl) (fun w' hw' => (Y_loadA (B := some ⟨b2, 0, none⟩) (i := 0) (cs := [vi 1, vi 0, vi 0, vi 0, vi 1]) (vs := [vi 1, vi 0, vi 0, vi 0, vi 1]) k_ag_49 k_sz_49_5 rfl rfl (ST.cf hw' (i := 2) rfl) rfl rfl)) ?_
    refine ra_q 3 16 (v := .agg #[vi 1, vi 0, vi 0, vi 0, vi 1]) rfl rfl rfl (by kernel_rfl) (by kernel_rfl) (by kernel_rfl) (ST.sel hS9 [0, 1, 2] rfl rfl) (fun w' hw' => (Y_loadA (B := some ⟨b2, 0, none⟩) (i := 0) (cs := [vi 1, vi 0, vi 0, vi 0, vi 1]) (vs := [vi 1, vi 0, vi 0, vi 0, vi 1]) k_ag_49 k_sz_49_5 rfl rfl (ST.cf hw' (i := 2) rfl) rfl rfl)) ?_
    refine ra_all (rs := [4]) (by kernel_rfl) rfl ?_
    refine ra_c 17 (i := 4) rfl rfl rfl (Yc_func (g := 82) (vs := [.agg #[vi 1, vi 0, vi 0, vi 0, vi 1]]) k_call_82 rfl (mc rfl mn) (c_spec_l2Neg (TDyadic.mk (TRing.mk 1 0 0 0) 1) _  (hS9.inn0 [] rfl) hc1)) ?_ ?_
    · rintro _ w_7 ⟨rfl, hd1⟩
      have hS10 := hS9.out00 hd1
      have hS10 : ST w0 [] _ [⟨some ⟨b, 0, none⟩, 49, [vi r_1.Num.A, vi r_1.Num.B, vi r_1.Num.C, vi r_1.Num.D, vi r_1.Exp], 5⟩, ⟨some ⟨b1, 0, none⟩, 49, [vi 0, vi 0, vi 0, vi 0, vi 0], 5⟩, ⟨some ⟨b2, 0, none⟩, 49, [vi 1, vi 0, vi 0, vi 0, vi 1], 5⟩] [] := hS10
      refine ⟨(ST.sel hS10 [0, 1, 2] rfl rfl), ?_⟩
      refine ra_all (rs := [5]) (by kernel_rfl) rfl ?_
      refine ra_s 18 (i := 5) rfl rfl rfl (Ys_bslice (s := 5) (len := 4) (vs := [(0, .agg #[vi 1, vi 0, vi 0, vi 0, vi 1]), (1, .agg #[vi 1, vi 0, vi 0, vi 0, vi 1]), (2, .agg #[vi 1, vi 0, vi 0, vi 0, vi 1]), (3, .agg #[vi r_2.Num.A, vi r_2.Num.B, vi r_2.Num.C, vi r_2.Num.D, vi r_2.Exp])]) (cs := [vi 1, vi 0, vi 0, vi 0, vi 1, vi 1, vi 0, vi 0, vi 0, vi 1, vi 1, vi 0, vi 0, vi 0, vi 1, vi r_2.Num.A, vi r_2.Num.B, vi r_2.Num.C, vi r_2.Num.D, vi r_2.Exp]) (zs := [vi 0, vi 0, vi 0, vi 0, vi 0, vi 0, vi 0, vi 0, vi 0, vi 0, vi 0, vi 0, vi 0, vi 0, vi 0, vi 0, vi 0, vi 0, vi 0, vi 0]) (m := 20) hS10 k_sl_26_49 k_sz_49_5 k_zc_49 rfl (mpc rfl (mpc rfl (mpc rfl (mpc rfl mpn)))) rfl rfl rfl (by kernel_rfl) (by kernel_rfl) rfl) ?_ ?_
      · rintro _ w_8 ⟨b3, rfl, hS11⟩
        have hS11 : ST w0 [] _ [⟨some ⟨b, 0, none⟩, 49, [vi r_1.Num.A, vi r_1.Num.B, vi r_1.Num.C, vi r_1.Num.D, vi r_1.Exp], 5⟩, ⟨some ⟨b1, 0, none⟩, 49, [vi 0, vi 0, vi 0, vi 0, vi 0], 5⟩, ⟨some ⟨b2, 0, none⟩, 49, [vi 1, vi 0, vi 0, vi 0, vi 1], 5⟩, ⟨some ⟨b3, 0, none⟩, 49, ([(TDyadic.mk (TRing.mk 1 0 0 0) 1), (TDyadic.mk (TRing.mk 1 0 0 0) 1), (TDyadic.mk (TRing.mk 1 0 0 0) 1), r_2].flatMap enc_Dyadic), 4 * 5⟩] [] := hS11
        refine ⟨(ST.sel hS11 [0, 1, 2] rfl rfl), ?_⟩
        refine ra_q 6 2 (v := .slice (some ⟨b3, 0, none⟩) 4 4) rfl rfl rfl (by kernel_rfl) (by kernel_rfl) (by kernel_rfl) (ST.sel hS11 [0, 1, 2] rfl rfl) (fun w' hw' => (Y_assign (v := .slice (some ⟨b3, 0, none⟩) 4 4) rfl rfl)) ?_
        refine ra_done (by kernel_rfl) ?_
        refine cw_ret ?_
        obtain rfl := some_inj hF1
        exact ret1 Tryd.results50 (v1 := .slice (some ⟨b3, 0, none⟩) 4 4) (resAt_tmp rfl) ⟨some ⟨b3, 0, none⟩, 4, rfl, (ST.subR (R' := []) (hS11.sel [3] rfl rfl) (fun _ h => by cases h))⟩
      exact allR_nil
    exact allR_nil
  · skip
    have hF2 := cf' hF hb
    refine cw_seq ?_
    refine cw_region ?_
    refine sq 20 rfl rfl (Y_eq (k := .i64) (a := kind) (b := 2) rfl rfl rfl) ?_
    refine sq 19 rfl rfl (Y_assign (v := .bool (kind == 2)) rfl rfl) ?_
    refine rw_nil ?_
    refine cw_cond (b := (kind == 2)) rfl (fun hb1 => ?_) (fun hb1 => ?_)
    · skip
      have hF3 := ct hF2 hb1
      refine cw_seq ?_
      refine cw_region ?_
      refine sq 21 rfl rfl (Y_loadA (B := some ⟨b1, 0, none⟩) (i := 0) (cs := [vi 0, vi 0, vi 0, vi 0, vi 0]) (vs := [vi 0, vi 0, vi 0, vi 0, vi 0]) k_ag_49 k_sz_49_5 rfl rfl (hS7.cf (i := 1) rfl) rfl rfl) ?_
      refine sq 22 rfl rfl (Y_loadA (B := some ⟨b, 0, none⟩) (i := 0) (cs := [vi r_1.Num.A, vi r_1.Num.B, vi r_1.Num.C, vi r_1.Num.D, vi r_1.Exp]) (vs := [vi r_1.Num.A, vi r_1.Num.B, vi r_1.Num.C, vi r_1.Num.D, vi r_1.Exp]) k_ag_49 k_sz_49_5 rfl rfl (hS7.cf (i := 0) rfl) rfl rfl) ?_
      refine sq 23 rfl rfl (Y_loadA (B := some ⟨b, 0, none⟩) (i := 0) (cs := [vi r_1.Num.A, vi r_1.Num.B, vi r_1.Num.C, vi r_1.Num.D, vi r_1.Exp]) (vs := [vi r_1.Num.A, vi r_1.Num.B, vi r_1.Num.C, vi r_1.Num.D, vi r_1.Exp]) k_ag_49 k_sz_49_5 rfl rfl (hS7.cf (i := 0) rfl) rfl rfl) ?_
      refine sq 24 rfl rfl (Y_loadA (B := some ⟨b1, 0, none⟩) (i := 0) (cs := [vi 0, vi 0, vi 0, vi 0, vi 0]) (vs := [vi 0, vi 0, vi 0, vi 0, vi 0]) k_ag_49 k_sz_49_5 rfl rfl (hS7.cf (i := 1) rfl) rfl rfl) ?_
      refine ss 25 rfl rfl (Ys_bslice (s := 5) (len := 4) (vs := [(0, .agg #[vi 0, vi 0, vi 0, vi 0, vi 0]), (1, .agg #[vi r_1.Num.A, vi r_1.Num.B, vi r_1.Num.C, vi r_1.Num.D, vi r_1.Exp]), (2, .agg #[vi r_1.Num.A, vi r_1.Num.B, vi r_1.Num.C, vi r_1.Num.D, vi r_1.Exp]), (3, .agg #[vi 0, vi 0, vi 0, vi 0, vi 0])]) (cs := [vi 0, vi 0, vi 0, vi 0, vi 0, vi r_1.Num.A, vi r_1.Num.B, vi r_1.Num.C, vi r_1.Num.D, vi r_1.Exp, vi r_1.Num.A, vi r_1.Num.B, vi r_1.Num.C, vi r_1.Num.D, vi r_1.Exp, vi 0, vi 0, vi 0, vi 0, vi 0]) (zs := [vi 0, vi 0, vi 0, vi 0, vi 0, vi 0, vi 0, vi 0, vi 0, vi 0, vi 0, vi 0, vi 0, vi 0, vi 0, vi 0, vi 0, vi 0, vi 0, vi 0]) (m := 20) hS7 k_sl_26_49 k_sz_49_5 k_zc_49 rfl (mpc rfl (mpc rfl (mpc rfl (mpc rfl mpn)))) rfl rfl rfl (by kernel_rfl) (by kernel_rfl) rfl) ?_
      rintro _ w_9 ⟨b4, rfl, hS12⟩
      have hS12 : ST w0 [] _ [⟨some ⟨b, 0, none⟩, 49, [vi r_1.Num.A, vi r_1.Num.B, vi r_1.Num.C, vi r_1.Num.D, vi r_1.Exp], 5⟩, ⟨some ⟨b1, 0, none⟩, 49, [vi 0, vi 0, vi 0, vi 0, vi 0], 5⟩, ⟨some ⟨b2, 0, none⟩, 49, [vi 1, vi 0, vi 0, vi 0, vi 1], 5⟩, ⟨some ⟨b4, 0, none⟩, 49, ([(TDyadic.mk (TRing.mk 0 0 0 0) 0), r_1, r_1, (TDyadic.mk (TRing.mk 0 0 0 0) 0)].flatMap enc_Dyadic), 4 * 5⟩] [] := hS12
      refine sq 2 rfl rfl (Y_assign (v := .slice (some ⟨b4, 0, none⟩) 4 4) rfl rfl) ?_
      refine rw_nil ?_
      refine cw_ret ?_
      obtain rfl := some_inj hF3
      exact ret1 Tryd.results50 (v1 := .slice (some ⟨b4, 0, none⟩) 4 4) (resAt_tmp rfl) ⟨some ⟨b4, 0, none⟩, 4, rfl, (ST.subR (R' := []) (hS12.sel [3] rfl rfl) (fun _ h => by cases h))⟩
    · skip
      have hF4 := cf' hF2 hb1
      refine cw_seq ?_
      refine cw_region ?_
      refine sq 27 rfl rfl (Y_eq (k := .i64) (a := kind) (b := 3) rfl rfl rfl) ?_
      refine sq 26 rfl rfl (Y_assign (v := .bool (kind == 3)) rfl rfl) ?_
      refine rw_nil ?_
      refine cw_cond (b := (kind == 3)) rfl (fun hb2 => ?_) (fun hb2 => ?_)
      · skip
        have hF5 := ct hF4 hb2
        refine cw_seq ?_
        obtain ⟨r_3, hc2, hF5⟩ := bind_inv hF5
        obtain ⟨r_4, hc3, hF5⟩ := bind_inv hF5
        refine ra_start (ST.sel hS7 [0, 1, 2] rfl rfl).fn (by kernel_rfl) ?_
        have hS15 := hS7.drew
        refine ra_q 0 28 (v := .agg #[vi 0, vi 0, vi 0, vi 0, vi 0]) rfl rfl rfl (by kernel_rfl) (by kernel_rfl) (by kernel_rfl) (ST.sel hS15 [0, 1, 2] rfl rfl) (fun w' hw' => (Y_loadA (B := some ⟨b1, 0, none⟩) (i := 0) (cs := [vi 0, vi 0, vi 0, vi 0, vi 0]) (vs := [vi 0, vi 0, vi 0, vi 0, vi 0]) k_ag_49 k_sz_49_5 rfl rfl (ST.cf hw' (i := 1) rfl) rfl rfl)) ?_
        refine ra_q 3 31 (v := .agg #[vi 0, vi 0, vi 0, vi 0, vi 0]) rfl rfl rfl (by kernel_rfl) (by kernel_rfl) (by kernel_rfl) (ST.sel hS15 [0, 1, 2] rfl rfl) (fun w' hw' => (Y_loadA (B := some ⟨b1, 0, none⟩) (i := 0) (cs := [vi 0, vi 0, vi 0, vi 0, vi 0]) (vs := [vi 0, vi 0, vi 0, vi 0, vi 0]) k_ag_49 k_sz_49_5 rfl rfl (ST.cf hw' (i := 1) rfl) rfl rfl)) ?_
        refine ra_all (rs := [1]) (by kernel_rfl) rfl ?_
        refine ra_c 29 (i := 1) rfl rfl rfl (Yc_func (g := 81) (vs := [vi 6]) k_call_81 rfl (mc rfl mn) (c_spec_l2Power 6 _  (hS15.inn0 [] rfl) hc2)) ?_ ?_
        · rintro _ w_10 ⟨rfl, hd2⟩
          have hS16 := hS15.out00 hd2
          have hS16 : ST w0 [] _ [⟨some ⟨b, 0, none⟩, 49, [vi r_1.Num.A, vi r_1.Num.B, vi r_1.Num.C, vi r_1.Num.D, vi r_1.Exp], 5⟩, ⟨some ⟨b1, 0, none⟩, 49, [vi 0, vi 0, vi 0, vi 0, vi 0], 5⟩, ⟨some ⟨b2, 0, none⟩, 49, [vi 1, vi 0, vi 0, vi 0, vi 1], 5⟩] [] := hS16
          refine ⟨(ST.sel hS16 [0, 1, 2] rfl rfl), ?_⟩
          refine ra_all (rs := [2]) (by kernel_rfl) rfl ?_
          refine ra_c 30 (i := 2) rfl rfl rfl (Yc_func (g := 81) (vs := [vi 2]) k_call_81 rfl (mc rfl mn) (c_spec_l2Power 2 _  (hS16.inn0 [] rfl) hc3)) ?_ ?_
          · rintro _ w_11 ⟨rfl, hd3⟩
            have hS17 := hS16.out00 hd3
            have hS17 : ST w0 [] _ [⟨some ⟨b, 0, none⟩, 49, [vi r_1.Num.A, vi r_1.Num.B, vi r_1.Num.C, vi r_1.Num.D, vi r_1.Exp], 5⟩, ⟨some ⟨b1, 0, none⟩, 49, [vi 0, vi 0, vi 0, vi 0, vi 0], 5⟩, ⟨some ⟨b2, 0, none⟩, 49, [vi 1, vi 0, vi 0, vi 0, vi 1], 5⟩] [] := hS17
            refine ⟨(ST.sel hS17 [0, 1, 2] rfl rfl), ?_⟩
            refine ra_all (rs := [4]) (by kernel_rfl) rfl ?_
            refine ra_s 32 (i := 4) rfl rfl rfl (Ys_bslice (s := 5) (len := 4) (vs := [(0, .agg #[vi 0, vi 0, vi 0, vi 0, vi 0]), (1, .agg #[vi r_3.Num.A, vi r_3.Num.B, vi r_3.Num.C, vi r_3.Num.D, vi r_3.Exp]), (2, .agg #[vi r_4.Num.A, vi r_4.Num.B, vi r_4.Num.C, vi r_4.Num.D, vi r_4.Exp]), (3, .agg #[vi 0, vi 0, vi 0, vi 0, vi 0])]) (cs := [vi 0, vi 0, vi 0, vi 0, vi 0, vi r_3.Num.A, vi r_3.Num.B, vi r_3.Num.C, vi r_3.Num.D, vi r_3.Exp, vi r_4.Num.A, vi r_4.Num.B, vi r_4.Num.C, vi r_4.Num.D, vi r_4.Exp, vi 0, vi 0, vi 0, vi 0, vi 0]) (zs := [vi 0, vi 0, vi 0, vi 0, vi 0, vi 0, vi 0, vi 0, vi 0, vi 0, vi 0, vi 0, vi 0, vi 0, vi 0, vi 0, vi 0, vi 0, vi 0, vi 0]) (m := 20) hS17 k_sl_26_49 k_sz_49_5 k_zc_49 rfl (mpc rfl (mpc rfl (mpc rfl (mpc rfl mpn)))) rfl rfl rfl (by kernel_rfl) (by kernel_rfl) rfl) ?_ ?_
            · rintro _ w_12 ⟨b5, rfl, hS18⟩
              have hS18 : ST w0 [] _ [⟨some ⟨b, 0, none⟩, 49, [vi r_1.Num.A, vi r_1.Num.B, vi r_1.Num.C, vi r_1.Num.D, vi r_1.Exp], 5⟩, ⟨some ⟨b1, 0, none⟩, 49, [vi 0, vi 0, vi 0, vi 0, vi 0], 5⟩, ⟨some ⟨b2, 0, none⟩, 49, [vi 1, vi 0, vi 0, vi 0, vi 1], 5⟩, ⟨some ⟨b5, 0, none⟩, 49, ([(TDyadic.mk (TRing.mk 0 0 0 0) 0), r_3, r_4, (TDyadic.mk (TRing.mk 0 0 0 0) 0)].flatMap enc_Dyadic), 4 * 5⟩] [] := hS18
              refine ⟨(ST.sel hS18 [0, 1, 2] rfl rfl), ?_⟩
              refine ra_q 5 2 (v := .slice (some ⟨b5, 0, none⟩) 4 4) rfl rfl rfl (by kernel_rfl) (by kernel_rfl) (by kernel_rfl) (ST.sel hS18 [0, 1, 2] rfl rfl) (fun w' hw' => (Y_assign (v := .slice (some ⟨b5, 0, none⟩) 4 4) rfl rfl)) ?_
              refine ra_done (by kernel_rfl) ?_
              refine cw_ret ?_
              obtain rfl := some_inj hF5
              exact ret1 Tryd.results50 (v1 := .slice (some ⟨b5, 0, none⟩) 4 4) (resAt_tmp rfl) ⟨some ⟨b5, 0, none⟩, 4, rfl, (ST.subR (R' := []) (hS18.sel [3] rfl rfl) (fun _ h => by cases h))⟩
            exact allR_nil
          exact allR_nil
        exact allR_nil
      · skip
        have hF6 := cf' hF4 hb2
        refine cw_skip ?_
        refine cw_seq ?_
        obtain ⟨x, hx, hF6⟩ := bind_inv hF6
        obtain ⟨r_5, hc4, hF6⟩ := bind_inv hF6
        refine ra_start (ST.sel hS7 [0, 1, 2] rfl rfl).fn (by kernel_rfl) ?_
        have hS20 := hS7.drew
        refine ra_q 0 33 (v := .agg #[vi r_1.Num.A, vi r_1.Num.B, vi r_1.Num.C, vi r_1.Num.D, vi r_1.Exp]) rfl rfl rfl (by kernel_rfl) (by kernel_rfl) (by kernel_rfl) (ST.sel hS20 [0, 1, 2] rfl rfl) (fun w' hw' => (Y_loadA (B := some ⟨b, 0, none⟩) (i := 0) (cs := [vi r_1.Num.A, vi r_1.Num.B, vi r_1.Num.C, vi r_1.Num.D, vi r_1.Exp]) (vs := [vi r_1.Num.A, vi r_1.Num.B, vi r_1.Num.C, vi r_1.Num.D, vi r_1.Exp]) k_ag_49 k_sz_49_5 rfl rfl (ST.cf hw' (i := 0) rfl) rfl rfl)) ?_
        refine ra_q 1 34 (v := .agg #[vi 0, vi 0, vi 0, vi 0, vi 0]) rfl rfl rfl (by kernel_rfl) (by kernel_rfl) (by kernel_rfl) (ST.sel hS20 [0, 1, 2] rfl rfl) (fun w' hw' => (Y_loadA (B := some ⟨b1, 0, none⟩) (i := 0) (cs := [vi 0, vi 0, vi 0, vi 0, vi 0]) (vs := [vi 0, vi 0, vi 0, vi 0, vi 0]) k_ag_49 k_sz_49_5 rfl rfl (ST.cf hw' (i := 1) rfl) rfl rfl)) ?_
        refine ra_q 2 35 (v := .agg #[vi 0, vi 0, vi 0, vi 0, vi 0]) rfl rfl rfl (by kernel_rfl) (by kernel_rfl) (by kernel_rfl) (ST.sel hS20 [0, 1, 2] rfl rfl) (fun w' hw' => (Y_loadA (B := some ⟨b1, 0, none⟩) (i := 0) (cs := [vi 0, vi 0, vi 0, vi 0, vi 0]) (vs := [vi 0, vi 0, vi 0, vi 0, vi 0]) k_ag_49 k_sz_49_5 rfl rfl (ST.cf hw' (i := 1) rfl) rfl rfl)) ?_
        refine ra_q 4 37 (v := vi kind) rfl rfl rfl (by kernel_rfl) (by kernel_rfl) (by kernel_rfl) (ST.sel hS20 [0, 1, 2] rfl rfl) (fun w' hw' => (Y_move (v := vi kind) rfl rfl)) ?_
        refine ra_q 5 38 (v := vi (i64.wrap (kind - 4))) rfl rfl rfl (by kernel_rfl) (by kernel_rfl) (by kernel_rfl) (ST.sel hS20 [0, 1, 2] rfl rfl) (fun w' hw' => (Y_sub (k := .i64) (a := kind) (b := 4) rfl rfl rfl)) ?_
        refine ra_all (rs := [3]) (by kernel_rfl) rfl ?_
        refine ra_s 36 (i := 3) rfl rfl rfl (Ys_bslice (s := 1) (len := 5) (vs := [(0, vi 4), (1, vi 2), (2, vi 6), (3, vi 1), (4, vi 7)]) (cs := [vi 4, vi 2, vi 6, vi 1, vi 7]) (zs := [vi 0, vi 0, vi 0, vi 0, vi 0]) (m := 5) hS20 k_sl_102_3 k_sz_3_1 k_zc_3 rfl (mpc rfl (mpc rfl (mpc rfl (mpc rfl (mpc rfl mpn))))) rfl rfl rfl (by kernel_rfl) (by kernel_rfl) rfl) ?_ ?_
        · rintro _ w_13 ⟨b6, rfl, hS21⟩
          have hS21 : ST w0 [] _ [⟨some ⟨b, 0, none⟩, 49, [vi r_1.Num.A, vi r_1.Num.B, vi r_1.Num.C, vi r_1.Num.D, vi r_1.Exp], 5⟩, ⟨some ⟨b1, 0, none⟩, 49, [vi 0, vi 0, vi 0, vi 0, vi 0], 5⟩, ⟨some ⟨b2, 0, none⟩, 49, [vi 1, vi 0, vi 0, vi 0, vi 1], 5⟩, ⟨some ⟨b6, 0, none⟩, 3, ([4, 2, 6, 1, 7].flatMap encI), 5 * 1⟩] [] := hS21
          refine ⟨(ST.sel hS21 [0, 1, 2] rfl rfl), ?_⟩
          refine ra_all (rs := [6]) (by kernel_rfl) rfl ?_
          refine ra_y 39 (i := 6) (v := pt (some ⟨b6, 0, none⟩) ((i64.wrap (kind - 4)).toNat * 1)) rfl rfl rfl (Y_index (B := some ⟨b6, 0, none⟩) (m := 5) (c := 5) (k := .i64) (i := (i64.wrap (kind - 4))) k_sl_102_3 k_sz_3_1 rfl rfl rfl (gi_isSome encI_len rfl (hS21.cf (i := 3) rfl) hx) (getI_nn hx) (getI_ltI hx rfl)) (ST.sel hS21 [0, 1, 2] rfl rfl) ?_ ?_
          · skip
            refine ra_all (rs := [7]) (by kernel_rfl) rfl ?_
            refine ra_y 40 (i := 7) (v := vi x) rfl rfl rfl (Y_load1 (B := some ⟨b6, 0, none⟩) (i := (i64.wrap (kind - 4)).toNat * 1) (cs := ([4, 2, 6, 1, 7].flatMap encI)) (v := vi x) k_sc_3 rfl rfl (hS21.cf (i := 3) rfl) (gi_at0 encI_len hx rfl)) (ST.sel hS21 [0, 1, 2] rfl rfl) ?_ ?_
            · skip
              refine ra_all (rs := [8]) (by kernel_rfl) rfl ?_
              refine ra_c 41 (i := 8) rfl rfl rfl (Yc_func (g := 81) (vs := [vi x]) k_call_81 rfl (mc rfl mn) (c_spec_l2Power x _  (hS21.inn0 [] rfl) hc4)) ?_ ?_
              · rintro _ w_14 ⟨rfl, hd4⟩
                have hS22 := hS21.out00 hd4
                have hS22 : ST w0 [] _ [⟨some ⟨b, 0, none⟩, 49, [vi r_1.Num.A, vi r_1.Num.B, vi r_1.Num.C, vi r_1.Num.D, vi r_1.Exp], 5⟩, ⟨some ⟨b1, 0, none⟩, 49, [vi 0, vi 0, vi 0, vi 0, vi 0], 5⟩, ⟨some ⟨b2, 0, none⟩, 49, [vi 1, vi 0, vi 0, vi 0, vi 1], 5⟩, ⟨some ⟨b6, 0, none⟩, 3, ([4, 2, 6, 1, 7].flatMap encI), 5 * 1⟩] [] := hS22
                refine ⟨(ST.sel hS22 [0, 1, 2] rfl rfl), ?_⟩
                refine ra_all (rs := [9]) (by kernel_rfl) rfl ?_
                refine ra_s 42 (i := 9) rfl rfl rfl (Ys_bslice (s := 5) (len := 4) (vs := [(0, .agg #[vi r_1.Num.A, vi r_1.Num.B, vi r_1.Num.C, vi r_1.Num.D, vi r_1.Exp]), (1, .agg #[vi 0, vi 0, vi 0, vi 0, vi 0]), (2, .agg #[vi 0, vi 0, vi 0, vi 0, vi 0]), (3, .agg #[vi r_5.Num.A, vi r_5.Num.B, vi r_5.Num.C, vi r_5.Num.D, vi r_5.Exp])]) (cs := [vi r_1.Num.A, vi r_1.Num.B, vi r_1.Num.C, vi r_1.Num.D, vi r_1.Exp, vi 0, vi 0, vi 0, vi 0, vi 0, vi 0, vi 0, vi 0, vi 0, vi 0, vi r_5.Num.A, vi r_5.Num.B, vi r_5.Num.C, vi r_5.Num.D, vi r_5.Exp]) (zs := [vi 0, vi 0, vi 0, vi 0, vi 0, vi 0, vi 0, vi 0, vi 0, vi 0, vi 0, vi 0, vi 0, vi 0, vi 0, vi 0, vi 0, vi 0, vi 0, vi 0]) (m := 20) hS22 k_sl_26_49 k_sz_49_5 k_zc_49 rfl (mpc rfl (mpc rfl (mpc rfl (mpc rfl mpn)))) rfl rfl rfl (by kernel_rfl) (by kernel_rfl) rfl) ?_ ?_
                · rintro _ w_15 ⟨b7, rfl, hS23⟩
                  have hS23 : ST w0 [] _ [⟨some ⟨b, 0, none⟩, 49, [vi r_1.Num.A, vi r_1.Num.B, vi r_1.Num.C, vi r_1.Num.D, vi r_1.Exp], 5⟩, ⟨some ⟨b1, 0, none⟩, 49, [vi 0, vi 0, vi 0, vi 0, vi 0], 5⟩, ⟨some ⟨b2, 0, none⟩, 49, [vi 1, vi 0, vi 0, vi 0, vi 1], 5⟩, ⟨some ⟨b6, 0, none⟩, 3, ([4, 2, 6, 1, 7].flatMap encI), 5 * 1⟩, ⟨some ⟨b7, 0, none⟩, 49, ([r_1, (TDyadic.mk (TRing.mk 0 0 0 0) 0), (TDyadic.mk (TRing.mk 0 0 0 0) 0), r_5].flatMap enc_Dyadic), 4 * 5⟩] [] := hS23
                  refine ⟨(ST.sel hS23 [0, 1, 2] rfl rfl), ?_⟩
                  refine ra_q 10 2 (v := .slice (some ⟨b7, 0, none⟩) 4 4) rfl rfl rfl (by kernel_rfl) (by kernel_rfl) (by kernel_rfl) (ST.sel hS23 [0, 1, 2] rfl rfl) (fun w' hw' => (Y_assign (v := .slice (some ⟨b7, 0, none⟩) 4 4) rfl rfl)) ?_
                  refine ra_done (by kernel_rfl) ?_
                  refine cw_ret ?_
                  obtain rfl := some_inj hF6
                  exact ret1 Tryd.results50 (v1 := .slice (some ⟨b7, 0, none⟩) 4 4) (resAt_tmp rfl) ⟨some ⟨b7, 0, none⟩, 4, rfl, (ST.subR (R' := []) (hS23.sel [4] rfl rfl) (fun _ h => by cases h))⟩
                exact allR_nil
              exact allR_nil
            exact allR_nil
          exact allR_nil
        exact allR_nil

theorem c_spec_l9Pauli (i : Int)  (w0 : World)  (hS : ST w0 [] w0 [] []) {r_ : TMatrix} (hF : F_spec_l9Pauli i = some r_) :
    CV Tryd.prog 30 #[vi i] w0 (fun v w' => ∃ (B : Option Addr) (c : Nat), v = .agg #[vi r_.Rows, vi r_.Cols, .slice B r_.Cells.length c] ∧ ST w0 [] w' [⟨B, 49, (r_.Cells.flatMap enc_Dyadic), c * 5⟩] []) := by
  unfold F_spec_l9Pauli at hF
  refine cv_of_cw 7 Tryd.func30 rfl Tryd.ntmps30 rfl ?_
  refine cw_seq ?_
  refine cw_region ?_
  refine ss 2 rfl rfl (Ys_alloc (T := 32) (cs := [vi 0, vi 0, .slice none 0 0]) (m := 3) hS k_zero_32 rfl rfl rfl) ?_
  rintro _ w_ ⟨b, rfl, hS1⟩
  refine rw_nil ?_
  refine cw_seq ?_
  refine cw_region ?_
  refine sq 3 rfl rfl (Y_move (v := vi i) rfl rfl) ?_
  refine sq 4 rfl rfl (Y_add (k := .i64) (a := 2) (b := i) rfl rfl rfl) ?_
  obtain ⟨r_1, hc, hF⟩ := bind_inv hF
  refine sc 5 rfl rfl (Yc_func (g := 50) (vs := [vi (i64.wrap (2 + i))]) k_call_50 rfl (mc rfl mn) (c_spec_l6One (i64.wrap (2 + i)) _  (hS1.inn0 [] rfl) hc)) ?_
  rintro _ w_1 ⟨B1, c1, rfl, hd⟩
  have hS2 := hS1.out0 hd
  have hS2 : ST w0 [] _ [⟨some ⟨b, 0, none⟩, 32, [vi 0, vi 0, .slice none 0 0], 3⟩, ⟨B1, 49, (r_1.flatMap enc_Dyadic), c1 * 5⟩] [] := hS2
  refine sq 6 rfl rfl (Y_buildS (zs := [vi 0, vi 0, .slice none 0 0]) (vs := [(0, vi 2), (1, vi 2), (2, .slice B1 r_1.length c1)]) (cs := [vi 2, vi 2, .slice B1 r_1.length c1]) k_pl_32 k_zero_32 rfl (mpc rfl (mpc rfl (mpc rfl mpn))) rfl) ?_
  refine ss0 rfl rfl (Ys_store (i := 0) (s := 3) (B := some ⟨b, 0, none⟩) (T' := 32) (v := .agg #[vi 2, vi 2, .slice B1 r_1.length c1]) (vs := [vi 2, vi 2, .slice B1 r_1.length c1]) (k := 0) (cs' := [vi 2, vi 2, .slice B1 r_1.length c1]) hS2 k_sz_32_3 rfl rfl rfl rfl rfl rfl rfl (Nat.le_of_ble_eq_true rfl) rfl rfl) ?_
  rintro _ w_2 ⟨rfl, hS3⟩
  have hS3 : ST w0 [] _ [⟨some ⟨b, 0, none⟩, 32, [vi 2, vi 2, .slice B1 r_1.length c1], 3⟩, ⟨B1, 49, (r_1.flatMap enc_Dyadic), c1 * 5⟩] [] := hS3
  refine rw_nil ?_
  refine cw_ret ?_
  obtain rfl := some_inj hF
  exact ret1 Tryd.results30 (v1 := .agg #[vi 2, vi 2, .slice B1 r_1.length c1]) (resAt_cellA (B := some ⟨b, 0, none⟩) (i := 0) (cs := [vi 2, vi 2, .slice B1 r_1.length c1]) (vs := [vi 2, vi 2, .slice B1 r_1.length c1]) rfl k_ag_32 k_sz_32_3 (hS3.cf (i := 0) rfl) rfl rfl) ⟨B1, c1, rfl, (ST.subR (R' := []) (hS3.sel [1] rfl rfl) (fun _ h => by cases h))⟩
end Go.VK
