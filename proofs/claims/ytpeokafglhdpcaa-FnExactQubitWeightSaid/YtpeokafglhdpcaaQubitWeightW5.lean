/- Walks: each Go function returns what its Lean function says. By program. -/
import Derived.Test.YtpeokafglhdpcaaQubitWeightFa
import Derived.Test.YtpeokafglhdpcaaQubitWeightW4
set_option linter.unusedVariables false
set_option maxRecDepth 100000
set_option maxHeartbeats 1000000
namespace Go.VK
open Go.RowKit
open Go.Proofs
attribute [local irreducible] CW RW RA CV Y Yw Yc Ys RetOf
attribute [local irreducible] F_laws_szGateS F_laws_szCircuit F_laws_toGate F_laws_toGateS F_laws_toCircuit F_laws_eqGate F_laws_eqGateS F_laws_eqCircuit F_laws_eqRing F_laws_eqDyadic F_spec_l1Turn F_spec_l2Power F_spec_l3Unit F_spec_l1In F_spec_l4Gate F_spec_l4Good F_spec_l2C_matrix F_spec_l1All F_spec_l1Good F_spec_l2C_ring F_spec_l1Root F_spec_l1Even F_spec_l1Half F_spec_l2Low F_spec_l1Add F_spec_l2C_add F_spec_l1Mul F_spec_l2C_mul F_spec_l2C_times F_spec_l6Bit F_spec_l1Neg F_spec_l2Neg F_spec_l6One F_spec_l6Cell F_spec_l6Gate F_spec_l2C_run F_spec_l3Column F_spec_StateAfter F_spec_l1Conj F_spec_l2Conj F_spec_l2C_out F_spec_QubitWeight F_impl_within F_impl_isDim F_impl_matrixOf F_impl_whole F_impl_IdentityMatrix_1 F_impl_IdentityMatrix F_slices_IndexFunc_impl_Gate_impl_Gate F_slices_ContainsFunc_impl_Gate_impl_Gate F_impl_isTwo F_impl_IsValidGate F_impl_IsValidCircuit_1 F_impl_IsValidCircuit F_slices_IndexFunc_impl_Dyadic_impl_Dyadic F_slices_ContainsFunc_impl_Dyadic_impl_Dyadic F_impl_isCoef F_impl_IsValidRing F_impl_isEven F_impl_IsValidDyadic F_impl_IsValidMatrix_1 F_impl_IsValidMatrix F_impl_ringIf F_impl_DivRootTwo F_impl_DyadicOf F_impl_MulRootTwo F_impl_raised F_impl_combined F_impl_AddRing F_impl_AddDyadic F_impl_MulRing F_impl_MulDyadic F_impl_Matrix_at F_impl_MulMatrix_1 F_impl_MulMatrix F_impl_bitOf F_impl_MulOmega F_impl_phase F_impl_small F_impl_flipped F_impl_comesFrom F_impl_entry F_impl_GateMatrix_1 F_impl_GateMatrix F_impl_applied F_impl_ColumnOf_1 F_impl_ColumnOf F_impl_StateAfter F_impl_Conjugate F_impl_ConjDyadic F_impl_NormSquare F_impl_QubitWeight F_laws_FnExactQubitWeight
theorem c_impl_applied (c : TCircuit) (m : TMatrix) (ok : Bool) (B : Option Addr) (c1 n : Nat) (B1 : Option Addr) (c2 n1 : Nat) (w0 : World) (hn : c.Gates.length = n) (hn1 : m.Cells.length = n1) (hS : ST w0 (bl [⟨B1, 83, (m.Cells.flatMap enc_Dyadic), c2 * 5⟩]) w0 [⟨B1, 83, (m.Cells.flatMap enc_Dyadic), c2 * 5⟩] [⟨B, (c.Gates.flatMap enc_Gate)⟩]) {r_ : TMatrix} {r_1 : Bool} (hF : F_impl_applied c m ok = some (r_, r_1)) :
    CV Try.prog 137 #[.agg #[.int .i64 c.Qubits, .slice B n c1], .agg #[.int .i64 m.Rows, .int .i64 m.Cols, .slice B1 n1 c2], .bool ok] w0 (fun v w' => ∃ (B2 : Option Addr) (c3 : Nat), v = .tuple #[.agg #[.int .i64 r_.Rows, .int .i64 r_.Cols, .slice B2 r_.Cells.length c3], .bool r_1] ∧ ST w0 (bl [⟨B1, 83, (m.Cells.flatMap enc_Dyadic), c2 * 5⟩]) w' [⟨B2, 83, (r_.Cells.flatMap enc_Dyadic), c3 * 5⟩] []) := by
  subst hn
  subst hn1
  unfold F_impl_applied at hF
  refine cv_of_cw 40 Try.func137 rfl Try.ntmps137 rfl ?_
  refine cw_seq ?_
  refine cw_region ?_
  refine ss 3 rfl rfl (Ys_box (T := 57) (v := .agg #[.int .i64 c.Qubits, .slice B c.Gates.length c1]) (cs := [.int .i64 c.Qubits, .slice B c.Gates.length c1]) (m := 2) hS rfl rfl rfl rfl) ?_
  rintro _ w_ ⟨b, rfl, hS1⟩
  have hS1 : ST w0 (bl [⟨B1, 83, (m.Cells.flatMap enc_Dyadic), c2 * 5⟩]) _ [⟨B1, 83, (m.Cells.flatMap enc_Dyadic), c2 * 5⟩, ⟨some ⟨b, 0, none⟩, 57, [.int .i64 c.Qubits, .slice B c.Gates.length c1], 2⟩] [⟨B, (c.Gates.flatMap enc_Gate)⟩] := hS1
  refine ss 4 rfl rfl (Ys_box (T := 26) (v := .agg #[.int .i64 m.Rows, .int .i64 m.Cols, .slice B1 m.Cells.length c2]) (cs := [.int .i64 m.Rows, .int .i64 m.Cols, .slice B1 m.Cells.length c2]) (m := 3) hS1 rfl rfl rfl rfl) ?_
  rintro _ w_1 ⟨b1, rfl, hS2⟩
  have hS2 : ST w0 (bl [⟨B1, 83, (m.Cells.flatMap enc_Dyadic), c2 * 5⟩]) _ [⟨B1, 83, (m.Cells.flatMap enc_Dyadic), c2 * 5⟩, ⟨some ⟨b, 0, none⟩, 57, [.int .i64 c.Qubits, .slice B c.Gates.length c1], 2⟩, ⟨some ⟨b1, 0, none⟩, 26, [.int .i64 m.Rows, .int .i64 m.Cols, .slice B1 m.Cells.length c2], 3⟩] [⟨B, (c.Gates.flatMap enc_Gate)⟩] := hS2
  refine ss 6 rfl rfl (Ys_alloc (T := 26) (cs := [.int .i64 0, .int .i64 0, .slice none 0 0]) (m := 3) hS2 k_zero_26 rfl rfl rfl) ?_
  rintro _ w_2 ⟨b2, rfl, hS3⟩
  have hS3 : ST w0 (bl [⟨B1, 83, (m.Cells.flatMap enc_Dyadic), c2 * 5⟩]) _ [⟨B1, 83, (m.Cells.flatMap enc_Dyadic), c2 * 5⟩, ⟨some ⟨b, 0, none⟩, 57, [.int .i64 c.Qubits, .slice B c.Gates.length c1], 2⟩, ⟨some ⟨b1, 0, none⟩, 26, [.int .i64 m.Rows, .int .i64 m.Cols, .slice B1 m.Cells.length c2], 3⟩, ⟨some ⟨b2, 0, none⟩, 26, [.int .i64 0, .int .i64 0, .slice none 0 0], 3⟩] [⟨B, (c.Gates.flatMap enc_Gate)⟩] := hS3
  refine sq 7 rfl rfl (Y_assign (v := .bool false) rfl rfl) ?_
  refine rw_nil ?_
  refine cw_seq ?_
  refine cw_seq ?_
  refine cw_region ?_
  refine sq 8 rfl rfl (Y_assign (v := .int .i64 0) rfl rfl) ?_
  refine rw_nil ?_
  obtain ⟨z, hz, hF1⟩ := bind_inv hF
  refine cw_block ?_
  refine cw_loop (fun k f w => ∃ (ok1 : Bool) (Rows : Int) (Cols : Int) (Cells : List TDyadic) (i : Int) (B3 : Option Addr) (c4 : Nat), FF f [(2, .bool ok1), (3, pt (some ⟨b, 0, none⟩) 0), (4, pt (some ⟨b1, 0, none⟩) 0), (6, pt (some ⟨b2, 0, none⟩) 0), (8, .int .i64 i)] ∧ ST w0 (bl [⟨B1, 83, (m.Cells.flatMap enc_Dyadic), c2 * 5⟩]) w [⟨some ⟨b, 0, none⟩, 57, [.int .i64 c.Qubits, .slice B c.Gates.length c1], 2⟩, ⟨some ⟨b1, 0, none⟩, 26, [.int .i64 Rows, .int .i64 Cols, .slice B3 Cells.length c4], 3⟩, ⟨B3, 83, (Cells.flatMap enc_Dyadic), c4 * 5⟩, ⟨some ⟨b2, 0, none⟩, 26, [.int .i64 0, .int .i64 0, .slice none 0 0], 3⟩] [⟨B, (c.Gates.flatMap enc_Gate)⟩] ∧ whX (F_impl_applied_l1 c) k (ok1, Rows, Cols, Cells, i) = some z) fuel ⟨ok, m.Rows, m.Cols, m.Cells, 0, B1, c2, (FF.cons rfl (FF.cons rfl (FF.cons rfl (FF.cons rfl (FF.cons rfl FF.nil))))), (hS3.sel [1, 2, 0, 3] rfl rfl), hz⟩ ?_
  rintro k_ f w ⟨ok1, Rows, Cols, Cells, i, B3, c4, hf, hS4, hL⟩
  obtain ⟨k_1, y, rfl, hb, hL1⟩ := whX_go hL
  unfold F_impl_applied_l1 at hb
  refine cw_seq ?_
  refine cw_seq ?_
  refine cw_region ?_
  refine sq 11 rfl rfl (Y_move (v := .int .i64 i) rfl (hf.get 8 4 rfl)) ?_
  refine sq 12 rfl rfl (Y_fieldAddr (B := some ⟨b, 0, none⟩) (i := 0) (s := 0) k_fd_57_1_1_55 k_sz_55_1 rfl (hf.get 3 1 rfl)) ?_
  refine sq 13 rfl rfl (Y_load1 (B := some ⟨b, 0, none⟩) (i := 1) (cs := [.int .i64 c.Qubits, .slice B c.Gates.length c1]) (v := .slice B c.Gates.length c1) k_sc_55 rfl rfl (hS4.cf (i := 0) rfl) rfl) ?_
  refine sq 14 rfl rfl (Y_len (B := B) (m := c.Gates.length) (c := c1) k_sl_55_171 rfl rfl) ?_
  refine sq 15 rfl rfl (Y_lt (k := .i64) (a := i) (b := (c.Gates.length : Int)) rfl rfl rfl) ?_
  refine sq 16 rfl rfl (Y_move (v := .bool (decide (i < (c.Gates.length : Int)))) rfl rfl) ?_
  refine sgq 17 (B := (decide (i < (c.Gates.length : Int)))) (v := .bool ok1) rfl rfl (wt_t (gd_of (t := 16) (by kernel_rfl) rfl)) (fun hg => (Y_move (v := .bool ok1) rfl (hf.get 2 0 rfl))) ?_
  refine sq 18 rfl rfl (Y_and (b := (decide (i < (c.Gates.length : Int)))) (z := ok1) rfl rfl rfl rfl) ?_
  refine rw_nil ?_
  refine cw_cond (b := ((decide (i < (c.Gates.length : Int))) && ok1)) rfl (fun hb1 => ?_) (fun hb1 => ?_)
  · skip
    have hF2 := ct hb hb1
    refine cw_skip ?_
    refine cw_seq ?_
    refine cw_block ?_
    refine cw_seq ?_
    obtain ⟨x, hx, hF2⟩ := bind_inv hF2
    obtain ⟨⟨r_2, r_3⟩, hc, hF2⟩ := bind_inv hF2
    refine cw_mid (fun f w => ∃ (B5 : Option Addr) (B6 : Option Addr) (c6 : Nat), FF f [(3, pt (some ⟨b, 0, none⟩) 0), (4, pt (some ⟨b1, 0, none⟩) 0), (6, pt (some ⟨b2, 0, none⟩) 0), (8, .int .i64 i), (9, pt B5 0)] ∧ ST w0 (bl [⟨B1, 83, (m.Cells.flatMap enc_Dyadic), c2 * 5⟩]) w [⟨some ⟨b, 0, none⟩, 57, [.int .i64 c.Qubits, .slice B c.Gates.length c1], 2⟩, ⟨some ⟨b1, 0, none⟩, 26, [.int .i64 Rows, .int .i64 Cols, .slice B3 Cells.length c4], 3⟩, ⟨B3, 83, (Cells.flatMap enc_Dyadic), c4 * 5⟩, ⟨some ⟨b2, 0, none⟩, 26, [.int .i64 0, .int .i64 0, .slice none 0 0], 3⟩, ⟨B5, 26, [.int .i64 r_2.Rows, .int .i64 r_2.Cols, .slice B6 r_2.Cells.length c6], 3⟩, ⟨B6, 83, (r_2.Cells.flatMap enc_Dyadic), c6 * 5⟩] [⟨B, (c.Gates.flatMap enc_Gate)⟩]) ?_ ?_
    · skip
      refine ra_start (ST.sel hS4 [0, 1, 2, 3] rfl rfl).fn (by kernel_rfl) ?_
      have hS7 := hS4.drew
      refine ra_q 0 22 (v := pt (some ⟨b, 0, none⟩) 0) rfl rfl rfl (by kernel_rfl) (by kernel_rfl) (by kernel_rfl) (ST.sel hS7 [0, 1, 2, 3] rfl rfl) (fun w' hw' => (Y_fieldAddr (B := some ⟨b, 0, none⟩) (i := 0) (s := 0) k_fd_57_0_0_3 k_sz_3_1 rfl (hf.get 3 1 rfl))) ?_
      refine ra_q 1 23 (v := .int .i64 c.Qubits) rfl rfl rfl (by kernel_rfl) (by kernel_rfl) (by kernel_rfl) (ST.sel hS7 [0, 1, 2, 3] rfl rfl) (fun w' hw' => (Y_load1 (B := some ⟨b, 0, none⟩) (i := 0) (cs := [.int .i64 c.Qubits, .slice B c.Gates.length c1]) (v := .int .i64 c.Qubits) k_sc_3 rfl rfl (ST.cf hw' (i := 0) rfl) rfl)) ?_
      refine ra_q 2 24 (v := pt (some ⟨b, 0, none⟩) 1) rfl rfl rfl (by kernel_rfl) (by kernel_rfl) (by kernel_rfl) (ST.sel hS7 [0, 1, 2, 3] rfl rfl) (fun w' hw' => (Y_fieldAddr (B := some ⟨b, 0, none⟩) (i := 0) (s := 0) k_fd_57_1_1_55 k_sz_55_1 rfl (hf.get 3 1 rfl))) ?_
      refine ra_q 3 25 (v := .slice B c.Gates.length c1) rfl rfl rfl (by kernel_rfl) (by kernel_rfl) (by kernel_rfl) (ST.sel hS7 [0, 1, 2, 3] rfl rfl) (fun w' hw' => (Y_load1 (B := some ⟨b, 0, none⟩) (i := 1) (cs := [.int .i64 c.Qubits, .slice B c.Gates.length c1]) (v := .slice B c.Gates.length c1) k_sc_55 rfl rfl (ST.cf hw' (i := 0) rfl) rfl)) ?_
      refine ra_q 4 26 (v := .int .i64 i) rfl rfl rfl (by kernel_rfl) (by kernel_rfl) (by kernel_rfl) (ST.sel hS7 [0, 1, 2, 3] rfl rfl) (fun w' hw' => (Y_move (v := .int .i64 i) rfl (hf.get 8 4 rfl))) ?_
      refine ra_q 5 27 (v := pt B (i.toNat * 3)) rfl rfl rfl (by kernel_rfl) (by kernel_rfl) (by kernel_rfl) (ST.sel hS7 [0, 1, 2, 3] rfl rfl) (fun w' hw' => (Y_index (B := B) (m := c.Gates.length) (c := c1) (k := .i64) (i := i) k_sl_55_171 k_sz_171_3 rfl rfl rfl (gi_isSome enc_Gate_len rfl (ST.rf hw' (i := 0) rfl) hx) (getI_nn hx) (getI_ltI hx rfl))) ?_
      refine ra_q 6 28 (v := .agg #[.int .i64 x.Kind, .int .i64 x.A, .int .i64 x.B]) rfl rfl rfl (by kernel_rfl) (by kernel_rfl) (by kernel_rfl) (ST.sel hS7 [0, 1, 2, 3] rfl rfl) (fun w' hw' => (Y_loadA (B := B) (i := i.toNat * 3) (cs := (c.Gates.flatMap enc_Gate)) (vs := [.int .i64 x.Kind, .int .i64 x.A, .int .i64 x.B]) k_ag_171 k_sz_171_3 rfl rfl (ST.rf hw' (i := 0) rfl) (enc_Gate_len x) (gi_seg enc_Gate_len hx))) ?_
      refine ra_all (rs := [7, 11]) (by kernel_rfl) rfl ?_
      refine ra_c 29 (i := 7) rfl rfl rfl (Yc_func (g := 218) (vs := [.int .i64 c.Qubits, .agg #[.int .i64 x.Kind, .int .i64 x.A, .int .i64 x.B]]) k_call_218 rfl (mc rfl (mc rfl mn)) (c_impl_GateMatrix c.Qubits x _  (hS7.inn0 [] rfl) hc)) ?_ ?_
      · rintro _ w_3 ⟨B4, c5, rfl, hd⟩
        have hS8 := hS7.out0 hd
        have hS8 : ST w0 (bl [⟨B1, 83, (m.Cells.flatMap enc_Dyadic), c2 * 5⟩]) _ [⟨some ⟨b, 0, none⟩, 57, [.int .i64 c.Qubits, .slice B c.Gates.length c1], 2⟩, ⟨some ⟨b1, 0, none⟩, 26, [.int .i64 Rows, .int .i64 Cols, .slice B3 Cells.length c4], 3⟩, ⟨B3, 83, (Cells.flatMap enc_Dyadic), c4 * 5⟩, ⟨some ⟨b2, 0, none⟩, 26, [.int .i64 0, .int .i64 0, .slice none 0 0], 3⟩, ⟨B4, 83, (r_2.Cells.flatMap enc_Dyadic), c5 * 5⟩] [⟨B, (c.Gates.flatMap enc_Gate)⟩] := hS8
        refine ⟨(ST.sel hS8 [0, 1, 2, 3] rfl rfl), ?_⟩
        refine ra_q 8 21 (v := .tuple #[.agg #[.int .i64 r_2.Rows, .int .i64 r_2.Cols, .slice B4 r_2.Cells.length c5], .bool r_3]) rfl rfl rfl (by kernel_rfl) (by kernel_rfl) (by kernel_rfl) (ST.sel hS8 [0, 1, 2, 3] rfl rfl) (fun w' hw' => (Y_move (v := .tuple #[.agg #[.int .i64 r_2.Rows, .int .i64 r_2.Cols, .slice B4 r_2.Cells.length c5], .bool r_3]) rfl rfl)) ?_
        refine ra_q 9 30 (v := .agg #[.int .i64 r_2.Rows, .int .i64 r_2.Cols, .slice B4 r_2.Cells.length c5]) rfl rfl rfl (by kernel_rfl) (by kernel_rfl) (by kernel_rfl) (ST.sel hS8 [0, 1, 2, 3] rfl rfl) (fun w' hw' => (Y_extract (v := .agg #[.int .i64 r_2.Rows, .int .i64 r_2.Cols, .slice B4 r_2.Cells.length c5]) rfl rfl rfl)) ?_
        refine ra_q 10 31 (v := .bool r_3) rfl rfl rfl (by kernel_rfl) (by kernel_rfl) (by kernel_rfl) (ST.sel hS8 [0, 1, 2, 3] rfl rfl) (fun w' hw' => (Y_extract (v := .bool r_3) rfl rfl rfl)) ?_
        refine ra_all (rs := [11]) (by kernel_rfl) rfl ?_
        refine ra_s 9 (i := 11) rfl rfl rfl (Ys_alloc (T := 26) (cs := [.int .i64 0, .int .i64 0, .slice none 0 0]) (m := 3) hS8 k_zero_26 rfl rfl rfl) ?_ ?_
        · rintro _ w_4 ⟨b3, rfl, hS9⟩
          have hS9 : ST w0 (bl [⟨B1, 83, (m.Cells.flatMap enc_Dyadic), c2 * 5⟩]) _ [⟨some ⟨b, 0, none⟩, 57, [.int .i64 c.Qubits, .slice B c.Gates.length c1], 2⟩, ⟨some ⟨b1, 0, none⟩, 26, [.int .i64 Rows, .int .i64 Cols, .slice B3 Cells.length c4], 3⟩, ⟨B3, 83, (Cells.flatMap enc_Dyadic), c4 * 5⟩, ⟨some ⟨b2, 0, none⟩, 26, [.int .i64 0, .int .i64 0, .slice none 0 0], 3⟩, ⟨B4, 83, (r_2.Cells.flatMap enc_Dyadic), c5 * 5⟩, ⟨some ⟨b3, 0, none⟩, 26, [.int .i64 0, .int .i64 0, .slice none 0 0], 3⟩] [⟨B, (c.Gates.flatMap enc_Gate)⟩] := hS9
          refine ⟨(ST.sel hS9 [0, 1, 2, 3] rfl rfl), ?_⟩
          refine ra_all (rs := [12]) (by kernel_rfl) rfl ?_
          refine ra_s0 (i := 12) rfl rfl rfl (Ys_store (i := 5) (s := 3) (B := some ⟨b3, 0, none⟩) (T' := 26) (v := .agg #[.int .i64 r_2.Rows, .int .i64 r_2.Cols, .slice B4 r_2.Cells.length c5]) (vs := [.int .i64 r_2.Rows, .int .i64 r_2.Cols, .slice B4 r_2.Cells.length c5]) (k := 0) (cs' := [.int .i64 r_2.Rows, .int .i64 r_2.Cols, .slice B4 r_2.Cells.length c5]) hS9 k_sz_26_3 rfl rfl rfl rfl rfl rfl rfl (Nat.le_of_ble_eq_true rfl) rfl rfl) ?_ ?_
          · rintro _ w_5 ⟨rfl, hS10⟩
            have hS10 : ST w0 (bl [⟨B1, 83, (m.Cells.flatMap enc_Dyadic), c2 * 5⟩]) _ [⟨some ⟨b, 0, none⟩, 57, [.int .i64 c.Qubits, .slice B c.Gates.length c1], 2⟩, ⟨some ⟨b1, 0, none⟩, 26, [.int .i64 Rows, .int .i64 Cols, .slice B3 Cells.length c4], 3⟩, ⟨B3, 83, (Cells.flatMap enc_Dyadic), c4 * 5⟩, ⟨some ⟨b2, 0, none⟩, 26, [.int .i64 0, .int .i64 0, .slice none 0 0], 3⟩, ⟨B4, 83, (r_2.Cells.flatMap enc_Dyadic), c5 * 5⟩, ⟨some ⟨b3, 0, none⟩, 26, [.int .i64 r_2.Rows, .int .i64 r_2.Cols, .slice B4 r_2.Cells.length c5], 3⟩] [⟨B, (c.Gates.flatMap enc_Gate)⟩] := hS10
            refine ⟨(ST.sel hS10 [0, 1, 2, 3] rfl rfl), ?_⟩
            refine ra_q 13 10 (v := .bool r_3) rfl rfl rfl (by kernel_rfl) (by kernel_rfl) (by kernel_rfl) (ST.sel hS10 [0, 1, 2, 3] rfl rfl) (fun w' hw' => (Y_assign (v := .bool r_3) rfl rfl)) ?_
            refine ra_done (by kernel_rfl) ?_
            exact ⟨some ⟨b3, 0, none⟩, B4, c5, (FF.cons (hf.get 3 1 rfl) (FF.cons (hf.get 4 2 rfl) (FF.cons (hf.get 6 3 rfl) (FF.cons (hf.get 8 4 rfl) (FF.cons rfl FF.nil))))), (hS10.sel [0, 1, 2, 3, 5, 4] rfl rfl)⟩
          exact allR_nil
        exact allR_nil
      refine ra_s 9 (i := 11) rfl rfl rfl (Ys_alloc (T := 26) (cs := [.int .i64 0, .int .i64 0, .slice none 0 0]) (m := 3) hS7 k_zero_26 rfl rfl rfl) ?_ ?_
      · rintro _ w_6 ⟨b3, rfl, hS11⟩
        have hS11 : ST w0 (bl [⟨B1, 83, (m.Cells.flatMap enc_Dyadic), c2 * 5⟩]) _ [⟨some ⟨b, 0, none⟩, 57, [.int .i64 c.Qubits, .slice B c.Gates.length c1], 2⟩, ⟨some ⟨b1, 0, none⟩, 26, [.int .i64 Rows, .int .i64 Cols, .slice B3 Cells.length c4], 3⟩, ⟨B3, 83, (Cells.flatMap enc_Dyadic), c4 * 5⟩, ⟨some ⟨b2, 0, none⟩, 26, [.int .i64 0, .int .i64 0, .slice none 0 0], 3⟩, ⟨some ⟨b3, 0, none⟩, 26, [.int .i64 0, .int .i64 0, .slice none 0 0], 3⟩] [⟨B, (c.Gates.flatMap enc_Gate)⟩] := hS11
        refine ⟨(ST.sel hS11 [0, 1, 2, 3] rfl rfl), ?_⟩
        refine ra_all (rs := [7]) (by kernel_rfl) rfl ?_
        refine ra_c 29 (i := 7) rfl rfl rfl (Yc_func (g := 218) (vs := [.int .i64 c.Qubits, .agg #[.int .i64 x.Kind, .int .i64 x.A, .int .i64 x.B]]) k_call_218 rfl (mc rfl (mc rfl mn)) (c_impl_GateMatrix c.Qubits x _  (hS11.inn0 [] rfl) hc)) ?_ ?_
        · rintro _ w_7 ⟨B4, c5, rfl, hd1⟩
          have hS12 := hS11.out0 hd1
          have hS12 : ST w0 (bl [⟨B1, 83, (m.Cells.flatMap enc_Dyadic), c2 * 5⟩]) _ [⟨some ⟨b, 0, none⟩, 57, [.int .i64 c.Qubits, .slice B c.Gates.length c1], 2⟩, ⟨some ⟨b1, 0, none⟩, 26, [.int .i64 Rows, .int .i64 Cols, .slice B3 Cells.length c4], 3⟩, ⟨B3, 83, (Cells.flatMap enc_Dyadic), c4 * 5⟩, ⟨some ⟨b2, 0, none⟩, 26, [.int .i64 0, .int .i64 0, .slice none 0 0], 3⟩, ⟨some ⟨b3, 0, none⟩, 26, [.int .i64 0, .int .i64 0, .slice none 0 0], 3⟩, ⟨B4, 83, (r_2.Cells.flatMap enc_Dyadic), c5 * 5⟩] [⟨B, (c.Gates.flatMap enc_Gate)⟩] := hS12
          refine ⟨(ST.sel hS12 [0, 1, 2, 3] rfl rfl), ?_⟩
          refine ra_q 8 21 (v := .tuple #[.agg #[.int .i64 r_2.Rows, .int .i64 r_2.Cols, .slice B4 r_2.Cells.length c5], .bool r_3]) rfl rfl rfl (by kernel_rfl) (by kernel_rfl) (by kernel_rfl) (ST.sel hS12 [0, 1, 2, 3] rfl rfl) (fun w' hw' => (Y_move (v := .tuple #[.agg #[.int .i64 r_2.Rows, .int .i64 r_2.Cols, .slice B4 r_2.Cells.length c5], .bool r_3]) rfl rfl)) ?_
          refine ra_q 9 30 (v := .agg #[.int .i64 r_2.Rows, .int .i64 r_2.Cols, .slice B4 r_2.Cells.length c5]) rfl rfl rfl (by kernel_rfl) (by kernel_rfl) (by kernel_rfl) (ST.sel hS12 [0, 1, 2, 3] rfl rfl) (fun w' hw' => (Y_extract (v := .agg #[.int .i64 r_2.Rows, .int .i64 r_2.Cols, .slice B4 r_2.Cells.length c5]) rfl rfl rfl)) ?_
          refine ra_q 10 31 (v := .bool r_3) rfl rfl rfl (by kernel_rfl) (by kernel_rfl) (by kernel_rfl) (ST.sel hS12 [0, 1, 2, 3] rfl rfl) (fun w' hw' => (Y_extract (v := .bool r_3) rfl rfl rfl)) ?_
          refine ra_all (rs := [12]) (by kernel_rfl) rfl ?_
          refine ra_s0 (i := 12) rfl rfl rfl (Ys_store (i := 4) (s := 3) (B := some ⟨b3, 0, none⟩) (T' := 26) (v := .agg #[.int .i64 r_2.Rows, .int .i64 r_2.Cols, .slice B4 r_2.Cells.length c5]) (vs := [.int .i64 r_2.Rows, .int .i64 r_2.Cols, .slice B4 r_2.Cells.length c5]) (k := 0) (cs' := [.int .i64 r_2.Rows, .int .i64 r_2.Cols, .slice B4 r_2.Cells.length c5]) hS12 k_sz_26_3 rfl rfl rfl rfl rfl rfl rfl (Nat.le_of_ble_eq_true rfl) rfl rfl) ?_ ?_
          · rintro _ w_8 ⟨rfl, hS13⟩
            have hS13 : ST w0 (bl [⟨B1, 83, (m.Cells.flatMap enc_Dyadic), c2 * 5⟩]) _ [⟨some ⟨b, 0, none⟩, 57, [.int .i64 c.Qubits, .slice B c.Gates.length c1], 2⟩, ⟨some ⟨b1, 0, none⟩, 26, [.int .i64 Rows, .int .i64 Cols, .slice B3 Cells.length c4], 3⟩, ⟨B3, 83, (Cells.flatMap enc_Dyadic), c4 * 5⟩, ⟨some ⟨b2, 0, none⟩, 26, [.int .i64 0, .int .i64 0, .slice none 0 0], 3⟩, ⟨some ⟨b3, 0, none⟩, 26, [.int .i64 r_2.Rows, .int .i64 r_2.Cols, .slice B4 r_2.Cells.length c5], 3⟩, ⟨B4, 83, (r_2.Cells.flatMap enc_Dyadic), c5 * 5⟩] [⟨B, (c.Gates.flatMap enc_Gate)⟩] := hS13
            refine ⟨(ST.sel hS13 [0, 1, 2, 3] rfl rfl), ?_⟩
            refine ra_q 13 10 (v := .bool r_3) rfl rfl rfl (by kernel_rfl) (by kernel_rfl) (by kernel_rfl) (ST.sel hS13 [0, 1, 2, 3] rfl rfl) (fun w' hw' => (Y_assign (v := .bool r_3) rfl rfl)) ?_
            refine ra_done (by kernel_rfl) ?_
            exact ⟨some ⟨b3, 0, none⟩, B4, c5, (FF.cons (hf.get 3 1 rfl) (FF.cons (hf.get 4 2 rfl) (FF.cons (hf.get 6 3 rfl) (FF.cons (hf.get 8 4 rfl) (FF.cons rfl FF.nil))))), (hS13.sel [0, 1, 2, 3, 4, 5] rfl rfl)⟩
          exact allR_nil
        exact allR_nil
      exact allR_nil
    rintro f w ⟨B5, B6, c6, hf1, hS6⟩
    refine cw_region ?_
    refine sq 33 rfl rfl (Y_loadA (B := B5) (i := 0) (cs := [.int .i64 r_2.Rows, .int .i64 r_2.Cols, .slice B6 r_2.Cells.length c6]) (vs := [.int .i64 r_2.Rows, .int .i64 r_2.Cols, .slice B6 r_2.Cells.length c6]) k_ag_26 k_sz_26_3 rfl (hf1.get 9 4 rfl) (hS6.cf (i := 4) rfl) rfl rfl) ?_
    refine sq 34 rfl rfl (Y_loadA (B := some ⟨b1, 0, none⟩) (i := 0) (cs := [.int .i64 Rows, .int .i64 Cols, .slice B3 Cells.length c4]) (vs := [.int .i64 Rows, .int .i64 Cols, .slice B3 Cells.length c4]) k_ag_26 k_sz_26_3 rfl (hf1.get 4 1 rfl) (hS6.cf (i := 1) rfl) rfl rfl) ?_
    obtain ⟨⟨r_4, r_5⟩, hc1, hF2⟩ := bind_inv hF2
    refine sc 35 rfl rfl (Yc_func (g := 75) (vs := [.agg #[.int .i64 r_2.Rows, .int .i64 r_2.Cols, .slice B6 r_2.Cells.length c6], .agg #[.int .i64 Rows, .int .i64 Cols, .slice B3 Cells.length c4]]) k_call_75 rfl (mc rfl (mc rfl mn)) (c_impl_MulMatrix r_2 (TMatrix.mk Rows Cols Cells) B6 c6 r_2.Cells.length B3 c4 Cells.length _ rfl rfl (hS6.inn0 [(false, 5), (false, 2)] rfl) hc1)) ?_
    rintro _ w_9 ⟨B7, c7, rfl, hd2⟩
    have hS14 := hS6.out0 hd2
    have hS14 : ST w0 (bl [⟨B1, 83, (m.Cells.flatMap enc_Dyadic), c2 * 5⟩]) _ [⟨some ⟨b, 0, none⟩, 57, [.int .i64 c.Qubits, .slice B c.Gates.length c1], 2⟩, ⟨some ⟨b1, 0, none⟩, 26, [.int .i64 Rows, .int .i64 Cols, .slice B3 Cells.length c4], 3⟩, ⟨B3, 83, (Cells.flatMap enc_Dyadic), c4 * 5⟩, ⟨some ⟨b2, 0, none⟩, 26, [.int .i64 0, .int .i64 0, .slice none 0 0], 3⟩, ⟨B5, 26, [.int .i64 r_2.Rows, .int .i64 r_2.Cols, .slice B6 r_2.Cells.length c6], 3⟩, ⟨B6, 83, (r_2.Cells.flatMap enc_Dyadic), c6 * 5⟩, ⟨B7, 83, (r_4.Cells.flatMap enc_Dyadic), c7 * 5⟩] [⟨B, (c.Gates.flatMap enc_Gate)⟩] := hS14
    refine sq 32 rfl rfl (Y_move (v := .tuple #[.agg #[.int .i64 r_4.Rows, .int .i64 r_4.Cols, .slice B7 r_4.Cells.length c7], .bool r_5]) rfl rfl) ?_
    refine sq 36 rfl rfl (Y_extract (v := .agg #[.int .i64 r_4.Rows, .int .i64 r_4.Cols, .slice B7 r_4.Cells.length c7]) rfl rfl rfl) ?_
    refine sq 37 rfl rfl (Y_extract (v := .bool r_5) rfl rfl rfl) ?_
    refine ss0 rfl rfl (Ys_store (i := 1) (s := 3) (B := some ⟨b1, 0, none⟩) (T' := 26) (v := .agg #[.int .i64 r_4.Rows, .int .i64 r_4.Cols, .slice B7 r_4.Cells.length c7]) (vs := [.int .i64 r_4.Rows, .int .i64 r_4.Cols, .slice B7 r_4.Cells.length c7]) (k := 0) (cs' := [.int .i64 r_4.Rows, .int .i64 r_4.Cols, .slice B7 r_4.Cells.length c7]) hS14 k_sz_26_3 rfl (hf1.get 4 1 rfl) rfl rfl rfl rfl rfl (Nat.le_of_ble_eq_true rfl) rfl rfl) ?_
    rintro _ w_10 ⟨rfl, hS15⟩
    have hS15 : ST w0 (bl [⟨B1, 83, (m.Cells.flatMap enc_Dyadic), c2 * 5⟩]) _ [⟨some ⟨b, 0, none⟩, 57, [.int .i64 c.Qubits, .slice B c.Gates.length c1], 2⟩, ⟨some ⟨b1, 0, none⟩, 26, [.int .i64 r_4.Rows, .int .i64 r_4.Cols, .slice B7 r_4.Cells.length c7], 3⟩, ⟨B3, 83, (Cells.flatMap enc_Dyadic), c4 * 5⟩, ⟨some ⟨b2, 0, none⟩, 26, [.int .i64 0, .int .i64 0, .slice none 0 0], 3⟩, ⟨B5, 26, [.int .i64 r_2.Rows, .int .i64 r_2.Cols, .slice B6 r_2.Cells.length c6], 3⟩, ⟨B6, 83, (r_2.Cells.flatMap enc_Dyadic), c6 * 5⟩, ⟨B7, 83, (r_4.Cells.flatMap enc_Dyadic), c7 * 5⟩] [⟨B, (c.Gates.flatMap enc_Gate)⟩] := hS15
    refine sq 2 rfl rfl (Y_assign (v := .bool r_5) rfl rfl) ?_
    refine rw_nil ?_
    refine cw_region ?_
    refine sq 19 rfl rfl (Y_move (v := .int .i64 i) rfl (hf1.get 8 3 rfl)) ?_
    refine sq 20 rfl rfl (Y_add (k := .i64) (a := i) (b := 1) rfl rfl rfl) ?_
    refine sq 8 rfl rfl (Y_assign (v := .int .i64 (IntKind.i64.wrap (i + 1))) rfl rfl) ?_
    refine rw_nil ?_
    obtain rfl := some_inj hF2
    exact ⟨k_1, Nat.lt_succ_self _, r_5, r_4.Rows, r_4.Cols, r_4.Cells, (IntKind.i64.wrap (i + 1)), B7, c7, (FF.cons rfl (FF.cons (hf1.get 3 0 rfl) (FF.cons (hf1.get 4 1 rfl) (FF.cons (hf1.get 6 2 rfl) (FF.cons rfl FF.nil))))), (hS15.sel [0, 1, 6, 3] rfl rfl), hL1⟩
  · skip
    have hF3 := cf' hb hb1
    refine cw_exit rfl ?_
    obtain rfl := some_inj hF3
    obtain rfl := some_inj hL1
    refine cw_seq ?_
    refine cw_region ?_
    refine sq 38 rfl rfl (Y_loadA (B := some ⟨b1, 0, none⟩) (i := 0) (cs := [.int .i64 Rows, .int .i64 Cols, .slice B3 Cells.length c4]) (vs := [.int .i64 Rows, .int .i64 Cols, .slice B3 Cells.length c4]) k_ag_26 k_sz_26_3 rfl (hf.get 4 2 rfl) (hS4.cf (i := 1) rfl) rfl rfl) ?_
    refine sq 39 rfl rfl (Y_move (v := .bool ok1) rfl (hf.get 2 0 rfl)) ?_
    refine ss0 rfl rfl (Ys_store (i := 3) (s := 3) (B := some ⟨b2, 0, none⟩) (T' := 26) (v := .agg #[.int .i64 Rows, .int .i64 Cols, .slice B3 Cells.length c4]) (vs := [.int .i64 Rows, .int .i64 Cols, .slice B3 Cells.length c4]) (k := 0) (cs' := [.int .i64 Rows, .int .i64 Cols, .slice B3 Cells.length c4]) hS4 k_sz_26_3 rfl (hf.get 6 3 rfl) rfl rfl rfl rfl rfl (Nat.le_of_ble_eq_true rfl) rfl rfl) ?_
    rintro _ w_11 ⟨rfl, hS16⟩
    have hS16 : ST w0 (bl [⟨B1, 83, (m.Cells.flatMap enc_Dyadic), c2 * 5⟩]) _ [⟨some ⟨b, 0, none⟩, 57, [.int .i64 c.Qubits, .slice B c.Gates.length c1], 2⟩, ⟨some ⟨b1, 0, none⟩, 26, [.int .i64 Rows, .int .i64 Cols, .slice B3 Cells.length c4], 3⟩, ⟨B3, 83, (Cells.flatMap enc_Dyadic), c4 * 5⟩, ⟨some ⟨b2, 0, none⟩, 26, [.int .i64 Rows, .int .i64 Cols, .slice B3 Cells.length c4], 3⟩] [⟨B, (c.Gates.flatMap enc_Gate)⟩] := hS16
    refine sq 7 rfl rfl (Y_assign (v := .bool ok1) rfl rfl) ?_
    refine rw_nil ?_
    refine cw_ret ?_
    obtain ⟨rfl, rfl⟩ := pr2 (some_inj hF1)
    exact ret2 Try.results137 (v1 := .agg #[.int .i64 Rows, .int .i64 Cols, .slice B3 Cells.length c4]) (resAt_cellA (B := some ⟨b2, 0, none⟩) (i := 0) (cs := [.int .i64 Rows, .int .i64 Cols, .slice B3 Cells.length c4]) (vs := [.int .i64 Rows, .int .i64 Cols, .slice B3 Cells.length c4]) (hf.get 6 3 rfl) k_ag_26 k_sz_26_3 (hS16.cf (i := 3) rfl) rfl rfl) (v2 := .bool ok1) (resAt_tmp rfl) ⟨B3, c4, rfl, (ST.subR (R' := []) (hS16.sel [2] rfl rfl) (fun _ h => by cases h))⟩

theorem c_impl_ColumnOf_1 (i : Int) (j : Int) (p : TMatrix) (p1 : Int) (B : Option Addr) (B1 : Option Addr) (c n : Nat) (B2 : Option Addr) (w0 : World) (hn : p.Cells.length = n) (hS : ST w0 [] w0 [] [⟨B, [.int .i64 p.Rows, .int .i64 p.Cols, .slice B1 p.Cells.length c]⟩, ⟨B1, (p.Cells.flatMap enc_Dyadic)⟩, ⟨B2, [.int .i64 p1]⟩]) {r_ : TDyadic} {r_1 : Bool} (hF : F_impl_ColumnOf_1 i j p p1 = some (r_, r_1)) :
    CV Try.prog 243 #[.int .i64 i, .int .i64 j, pt B 0, pt B2 0] w0 (fun v w' => v = .tuple #[.agg #[.int .i64 r_.Num.A, .int .i64 r_.Num.B, .int .i64 r_.Num.C, .int .i64 r_.Num.D, .int .i64 r_.Exp], .bool r_1] ∧ ST w0 [] w' [] []) := by
  subst hn
  unfold F_impl_ColumnOf_1 at hF
  refine cv_of_cw 12 Try.func243 rfl Try.ntmps243 rfl ?_
  refine cw_seq ?_
  refine cw_region ?_
  refine ss 6 rfl rfl (Ys_alloc (T := 83) (cs := [.int .i64 0, .int .i64 0, .int .i64 0, .int .i64 0, .int .i64 0]) (m := 5) hS k_zero_83 rfl rfl rfl) ?_
  rintro _ w_ ⟨b, rfl, hS1⟩
  refine sq 7 rfl rfl (Y_assign (v := .bool false) rfl rfl) ?_
  refine rw_nil ?_
  refine cw_seq ?_
  refine cw_region ?_
  refine sq 8 rfl rfl (Y_loadA (B := B) (i := 0) (cs := [.int .i64 p.Rows, .int .i64 p.Cols, .slice B1 p.Cells.length c]) (vs := [.int .i64 p.Rows, .int .i64 p.Cols, .slice B1 p.Cells.length c]) k_ag_26 k_sz_26_3 rfl rfl (hS1.rf (i := 0) rfl) rfl rfl) ?_
  refine sq 9 rfl rfl (Y_move (v := .int .i64 i) rfl rfl) ?_
  refine sq 10 rfl rfl (Y_load1 (B := B2) (i := 0) (cs := [.int .i64 p1]) (v := .int .i64 p1) k_sc_3 rfl rfl (hS1.rf (i := 2) rfl) rfl) ?_
  obtain ⟨r_2, hc, hF⟩ := bind_inv hF
  refine sc 11 rfl rfl (Yc_func (g := 147) (vs := [.agg #[.int .i64 p.Rows, .int .i64 p.Cols, .slice B1 p.Cells.length c], .int .i64 i, .int .i64 p1]) k_call_147 rfl (mc rfl (mc rfl (mc rfl mn))) (c_impl_Matrix_at p i p1 B1 c p.Cells.length _ rfl (hS1.inn0 [(true, 1)] rfl) hc)) ?_
  rintro _ w_1 ⟨rfl, hd⟩
  have hS2 := hS1.out00 hd
  refine ss0 rfl rfl (Ys_store (i := 0) (s := 5) (B := some ⟨b, 0, none⟩) (T' := 83) (v := .agg #[.int .i64 r_2.Num.A, .int .i64 r_2.Num.B, .int .i64 r_2.Num.C, .int .i64 r_2.Num.D, .int .i64 r_2.Exp]) (vs := [.int .i64 r_2.Num.A, .int .i64 r_2.Num.B, .int .i64 r_2.Num.C, .int .i64 r_2.Num.D, .int .i64 r_2.Exp]) (k := 0) (cs' := [.int .i64 r_2.Num.A, .int .i64 r_2.Num.B, .int .i64 r_2.Num.C, .int .i64 r_2.Num.D, .int .i64 r_2.Exp]) hS2 k_sz_83_5 rfl rfl rfl rfl rfl rfl rfl (Nat.le_of_ble_eq_true rfl) rfl rfl) ?_
  rintro _ w_2 ⟨rfl, hS3⟩
  refine sq 7 rfl rfl (Y_assign (v := .bool true) rfl rfl) ?_
  refine rw_nil ?_
  refine cw_ret ?_
  obtain ⟨rfl, rfl⟩ := pr2 (some_inj hF)
  exact ret2 Try.results243 (v1 := .agg #[.int .i64 r_2.Num.A, .int .i64 r_2.Num.B, .int .i64 r_2.Num.C, .int .i64 r_2.Num.D, .int .i64 r_2.Exp]) (resAt_cellA (B := some ⟨b, 0, none⟩) (i := 0) (cs := [.int .i64 r_2.Num.A, .int .i64 r_2.Num.B, .int .i64 r_2.Num.C, .int .i64 r_2.Num.D, .int .i64 r_2.Exp]) (vs := [.int .i64 r_2.Num.A, .int .i64 r_2.Num.B, .int .i64 r_2.Num.C, .int .i64 r_2.Num.D, .int .i64 r_2.Exp]) rfl k_ag_83 k_sz_83_5 (hS3.cf (i := 0) rfl) rfl rfl) (v2 := .bool true) (resAt_tmp rfl) ⟨rfl, (ST.subR (R' := []) (hS3.sel [] rfl rfl) (fun _ h => by cases h))⟩

theorem c_impl_ColumnOf (m : TMatrix) (k_ : Int) (B : Option Addr) (c n : Nat) (w0 : World) (hn : m.Cells.length = n) (hS : ST w0 [] w0 [] [⟨B, (m.Cells.flatMap enc_Dyadic)⟩]) {r_ : TMatrix} {r_1 : Bool} (hF : F_impl_ColumnOf m k_ = some (r_, r_1)) :
    CV Try.prog 178 #[.agg #[.int .i64 m.Rows, .int .i64 m.Cols, .slice B n c], .int .i64 k_] w0 (fun v w' => ∃ (B1 : Option Addr) (c1 : Nat), v = .tuple #[.agg #[.int .i64 r_.Rows, .int .i64 r_.Cols, .slice B1 r_.Cells.length c1], .bool r_1] ∧ ST w0 [] w' [⟨B1, 83, (r_.Cells.flatMap enc_Dyadic), c1 * 5⟩] []) := by
  subst hn
  unfold F_impl_ColumnOf at hF
  refine cv_of_cw 24 Try.func178 rfl Try.ntmps178 rfl ?_
  refine cw_seq ?_
  refine cw_region ?_
  refine ss 2 rfl rfl (Ys_box (T := 26) (v := .agg #[.int .i64 m.Rows, .int .i64 m.Cols, .slice B m.Cells.length c]) (cs := [.int .i64 m.Rows, .int .i64 m.Cols, .slice B m.Cells.length c]) (m := 3) hS rfl rfl rfl rfl) ?_
  rintro _ w_ ⟨b, rfl, hS1⟩
  refine ss 3 rfl rfl (Ys_box (T := 3) (v := .int .i64 k_) (cs := [.int .i64 k_]) (m := 1) hS1 rfl rfl rfl rfl) ?_
  rintro _ w_1 ⟨b1, rfl, hS2⟩
  have hS2 : ST w0 [] _ [⟨some ⟨b, 0, none⟩, 26, [.int .i64 m.Rows, .int .i64 m.Cols, .slice B m.Cells.length c], 3⟩, ⟨some ⟨b1, 0, none⟩, 3, [.int .i64 k_], 1⟩] [⟨B, (m.Cells.flatMap enc_Dyadic)⟩] := hS2
  refine ss 4 rfl rfl (Ys_alloc (T := 26) (cs := [.int .i64 0, .int .i64 0, .slice none 0 0]) (m := 3) hS2 k_zero_26 rfl rfl rfl) ?_
  rintro _ w_2 ⟨b2, rfl, hS3⟩
  have hS3 : ST w0 [] _ [⟨some ⟨b, 0, none⟩, 26, [.int .i64 m.Rows, .int .i64 m.Cols, .slice B m.Cells.length c], 3⟩, ⟨some ⟨b1, 0, none⟩, 3, [.int .i64 k_], 1⟩, ⟨some ⟨b2, 0, none⟩, 26, [.int .i64 0, .int .i64 0, .slice none 0 0], 3⟩] [⟨B, (m.Cells.flatMap enc_Dyadic)⟩] := hS3
  refine sq 5 rfl rfl (Y_assign (v := .bool false) rfl rfl) ?_
  refine rw_nil ?_
  refine cw_seq ?_
  refine cw_seq ?_
  refine cw_region ?_
  refine sq 6 rfl rfl (Y_loadA (B := some ⟨b, 0, none⟩) (i := 0) (cs := [.int .i64 m.Rows, .int .i64 m.Cols, .slice B m.Cells.length c]) (vs := [.int .i64 m.Rows, .int .i64 m.Cols, .slice B m.Cells.length c]) k_ag_26 k_sz_26_3 rfl rfl (hS3.cf (i := 0) rfl) rfl rfl) ?_
  obtain ⟨r_2, hc, hF⟩ := bind_inv hF
  refine sc 7 rfl rfl (Yc_func (g := 99) (vs := [.agg #[.int .i64 m.Rows, .int .i64 m.Cols, .slice B m.Cells.length c]]) k_call_99 rfl (mc rfl mn) (c_impl_IsValidMatrix m B c m.Cells.length _ rfl (hS3.inn0 [(true, 0)] rfl) hc)) ?_
  rintro _ w_3 ⟨rfl, hd⟩
  have hS4 := hS3.out00 hd
  have hS4 : ST w0 [] _ [⟨some ⟨b, 0, none⟩, 26, [.int .i64 m.Rows, .int .i64 m.Cols, .slice B m.Cells.length c], 3⟩, ⟨some ⟨b1, 0, none⟩, 3, [.int .i64 k_], 1⟩, ⟨some ⟨b2, 0, none⟩, 26, [.int .i64 0, .int .i64 0, .slice none 0 0], 3⟩] [⟨B, (m.Cells.flatMap enc_Dyadic)⟩] := hS4
  refine sq 8 rfl rfl (Y_not (p := r_2) rfl rfl) ?_
  refine sq 9 rfl rfl (Y_move (v := .bool (!r_2)) rfl rfl) ?_
  refine sgq 10 (B := (!(!r_2))) (v := .int .i64 k_) rfl rfl (wt_f (gd_of (t := 9) (by kernel_rfl) rfl)) (fun hg => (Y_load1 (B := some ⟨b1, 0, none⟩) (i := 0) (cs := [.int .i64 k_]) (v := .int .i64 k_) k_sc_3 rfl rfl (hS4.cf (i := 1) rfl) rfl)) ?_
  refine sgq 11 (B := (!(!r_2))) (v := pt (some ⟨b, 0, none⟩) 1) rfl rfl (wt_f (gd_of (t := 9) (by kernel_rfl) rfl)) (fun hg1 => (Y_fieldAddr (B := some ⟨b, 0, none⟩) (i := 0) (s := 0) k_fd_26_1_1_3 k_sz_3_1 rfl rfl)) ?_
  refine sgq 12 (B := (!(!r_2))) (v := .int .i64 m.Cols) rfl rfl (wt_f (gd_of (t := 9) (by kernel_rfl) rfl)) (fun hg2 => (Y_load1 (B := some ⟨b, 0, none⟩) (i := 1) (cs := [.int .i64 m.Rows, .int .i64 m.Cols, .slice B m.Cells.length c]) (v := .int .i64 m.Cols) k_sc_3 rfl (gv_of (B := (!(!r_2))) (v := pt (some ⟨b, 0, none⟩) 1) hg2) (hS4.cf (i := 0) rfl) rfl)) ?_
  refine sgq 13 (B := (!(!r_2))) (v := .int .i64 (IntKind.i64.wrap (m.Cols - 1))) rfl rfl (wt_f (gd_of (t := 9) (by kernel_rfl) rfl)) (fun hg3 => (Y_sub (k := .i64) (a := m.Cols) (b := 1) rfl (gv_of (B := (!(!r_2))) (v := .int .i64 m.Cols) hg3) rfl)) ?_
  obtain ⟨r_3, hc1, hF⟩ := bind_inv hF
  refine sgc 14 (B := (!(!r_2))) (v := .bool r_3) (F := hS4.fn) rfl rfl (wt_f (gd_of (t := 9) (by kernel_rfl) rfl)) hS4 (fun hg4 => (Yc_func (g := 107) (vs := [.int .i64 k_, .int .i64 0, .int .i64 (IntKind.i64.wrap (m.Cols - 1))]) k_call_107 rfl (mc (gv_of (B := (!(!r_2))) (v := .int .i64 k_) hg4) (mc rfl (mc (gv_of (B := (!(!r_2))) (v := .int .i64 (IntKind.i64.wrap (m.Cols - 1))) hg4) mn))) (CV.mono (c_impl_within k_ 0 (IntKind.i64.wrap (m.Cols - 1)) _  (hS4.inn0 [] rfl) (gb_inv hc1 hg4)) (by rintro _ _ ⟨rfl, h⟩; exact ⟨rfl, hS4.out00 h⟩)))) ?_
  rintro w_4 hS5
  have hS5 : ST _ _ w_4 _ _ := hS5
  refine sgq 15 (B := (!(!r_2))) (v := .bool (!r_3)) rfl rfl (wt_f (gd_of (t := 9) (by kernel_rfl) rfl)) (fun hg5 => (Y_not (p := r_3) rfl (gv_of (B := (!(!r_2))) (v := .bool r_3) hg5))) ?_
  refine sq 16 rfl rfl (Y_or (b := (!r_2)) (z := (!r_3)) rfl rfl rfl rfl) ?_
  refine rw_nil ?_
  refine cw_cond (b := ((!r_2) || (!r_3))) rfl (fun hb => ?_) (fun hb => ?_)
  · skip
    have hF1 := ct hF hb
    refine cw_seq ?_
    refine cw_region ?_
    refine sq 17 rfl rfl (Y_buildS (zs := [.int .i64 0, .int .i64 0, .slice none 0 0]) (vs := []) (cs := [.int .i64 0, .int .i64 0, .slice none 0 0]) k_pl_26 k_zero_26 rfl mpn rfl) ?_
    refine ss0 rfl rfl (Ys_store (i := 2) (s := 3) (B := some ⟨b2, 0, none⟩) (T' := 26) (v := .agg #[.int .i64 0, .int .i64 0, .slice none 0 0]) (vs := [.int .i64 0, .int .i64 0, .slice none 0 0]) (k := 0) (cs' := [.int .i64 0, .int .i64 0, .slice none 0 0]) hS5 k_sz_26_3 rfl rfl rfl rfl rfl rfl rfl (Nat.le_of_ble_eq_true rfl) rfl rfl) ?_
    rintro _ w_5 ⟨rfl, hS6⟩
    have hS6 : ST w0 [] _ [⟨some ⟨b, 0, none⟩, 26, [.int .i64 m.Rows, .int .i64 m.Cols, .slice B m.Cells.length c], 3⟩, ⟨some ⟨b1, 0, none⟩, 3, [.int .i64 k_], 1⟩, ⟨some ⟨b2, 0, none⟩, 26, [.int .i64 0, .int .i64 0, .slice none 0 0], 3⟩] [⟨B, (m.Cells.flatMap enc_Dyadic)⟩] := hS6
    refine sq 5 rfl rfl (Y_assign (v := .bool false) rfl rfl) ?_
    refine rw_nil ?_
    refine cw_ret ?_
    have hS7 := hS6.addNil 83
    obtain ⟨rfl, rfl⟩ := pr2 (some_inj hF1)
    exact ret2 Try.results178 (v1 := .agg #[.int .i64 0, .int .i64 0, .slice none 0 0]) (resAt_cellA (B := some ⟨b2, 0, none⟩) (i := 0) (cs := [.int .i64 0, .int .i64 0, .slice none 0 0]) (vs := [.int .i64 0, .int .i64 0, .slice none 0 0]) rfl k_ag_26 k_sz_26_3 (hS7.cf (i := 2) rfl) rfl rfl) (v2 := .bool false) (resAt_tmp rfl) ⟨none, 0, rfl, (ST.subR (R' := []) (hS7.sel [3] rfl rfl) (fun _ h => by cases h))⟩
  · skip
    have hF2 := cf' hF hb
    refine cw_skip ?_
    refine cw_seq ?_
    refine cw_region ?_
    refine sq 18 rfl rfl (Y_fieldAddr (B := some ⟨b, 0, none⟩) (i := 0) (s := 0) k_fd_26_0_0_3 k_sz_3_1 rfl rfl) ?_
    refine sq 19 rfl rfl (Y_load1 (B := some ⟨b, 0, none⟩) (i := 0) (cs := [.int .i64 m.Rows, .int .i64 m.Cols, .slice B m.Cells.length c]) (v := .int .i64 m.Rows) k_sc_3 rfl rfl (hS5.cf (i := 0) rfl) rfl) ?_
    refine sq 20 rfl rfl (Y_makeFunc (cs := [pt (some ⟨b, 0, none⟩) 0, pt (some ⟨b1, 0, none⟩) 0]) rfl rfl (mc rfl (mc rfl mn))) ?_
    obtain ⟨⟨r_4, r_5⟩, hc2, hF2⟩ := bind_inv hF2
    refine sc 21 rfl rfl (Yc_func (g := 140) (vs := [.int .i64 m.Rows, .int .i64 1, .func (.func 243) #[] #[pt (some ⟨b, 0, none⟩) 0, pt (some ⟨b1, 0, none⟩) 0]]) k_call_140 rfl (mc rfl (mc rfl (mc rfl mn))) (c_impl_matrixOf m.Rows 1 (fun x_0 x_1 => F_impl_ColumnOf_1 x_0 x_1 m k_) 243 (#[pt (some ⟨b, 0, none⟩) 0, pt (some ⟨b1, 0, none⟩) 0]) [⟨some ⟨b, 0, none⟩, [.int .i64 m.Rows, .int .i64 m.Cols, .slice B m.Cells.length c]⟩, ⟨B, (m.Cells.flatMap enc_Dyadic)⟩, ⟨some ⟨b1, 0, none⟩, [.int .i64 k_]⟩] _ k_call_243 (fun w hw x_0 x_1 y_0 y_1 h_ => c_impl_ColumnOf_1 x_0 x_1 m k_ (some ⟨b, 0, none⟩) B c m.Cells.length (some ⟨b1, 0, none⟩) w rfl hw h_) (hS5.inn0 [(false, 0), (true, 0), (false, 1)] rfl) hc2)) ?_
    rintro _ w_6 ⟨B2, c2, rfl, hd1⟩
    have hS8 := hS5.out0 hd1
    have hS8 : ST w0 [] _ [⟨some ⟨b, 0, none⟩, 26, [.int .i64 m.Rows, .int .i64 m.Cols, .slice B m.Cells.length c], 3⟩, ⟨some ⟨b1, 0, none⟩, 3, [.int .i64 k_], 1⟩, ⟨some ⟨b2, 0, none⟩, 26, [.int .i64 0, .int .i64 0, .slice none 0 0], 3⟩, ⟨B2, 83, (r_4.Cells.flatMap enc_Dyadic), c2 * 5⟩] [⟨B, (m.Cells.flatMap enc_Dyadic)⟩] := hS8
    refine sq 22 rfl rfl (Y_extract (v := .agg #[.int .i64 r_4.Rows, .int .i64 r_4.Cols, .slice B2 r_4.Cells.length c2]) rfl rfl rfl) ?_
    refine sq 23 rfl rfl (Y_extract (v := .bool r_5) rfl rfl rfl) ?_
    refine ss0 rfl rfl (Ys_store (i := 2) (s := 3) (B := some ⟨b2, 0, none⟩) (T' := 26) (v := .agg #[.int .i64 r_4.Rows, .int .i64 r_4.Cols, .slice B2 r_4.Cells.length c2]) (vs := [.int .i64 r_4.Rows, .int .i64 r_4.Cols, .slice B2 r_4.Cells.length c2]) (k := 0) (cs' := [.int .i64 r_4.Rows, .int .i64 r_4.Cols, .slice B2 r_4.Cells.length c2]) hS8 k_sz_26_3 rfl rfl rfl rfl rfl rfl rfl (Nat.le_of_ble_eq_true rfl) rfl rfl) ?_
    rintro _ w_7 ⟨rfl, hS9⟩
    have hS9 : ST w0 [] _ [⟨some ⟨b, 0, none⟩, 26, [.int .i64 m.Rows, .int .i64 m.Cols, .slice B m.Cells.length c], 3⟩, ⟨some ⟨b1, 0, none⟩, 3, [.int .i64 k_], 1⟩, ⟨some ⟨b2, 0, none⟩, 26, [.int .i64 r_4.Rows, .int .i64 r_4.Cols, .slice B2 r_4.Cells.length c2], 3⟩, ⟨B2, 83, (r_4.Cells.flatMap enc_Dyadic), c2 * 5⟩] [⟨B, (m.Cells.flatMap enc_Dyadic)⟩] := hS9
    refine sq 5 rfl rfl (Y_assign (v := .bool r_5) rfl rfl) ?_
    refine rw_nil ?_
    refine cw_ret ?_
    obtain ⟨rfl, rfl⟩ := pr2 (some_inj hF2)
    exact ret2 Try.results178 (v1 := .agg #[.int .i64 r_4.Rows, .int .i64 r_4.Cols, .slice B2 r_4.Cells.length c2]) (resAt_cellA (B := some ⟨b2, 0, none⟩) (i := 0) (cs := [.int .i64 r_4.Rows, .int .i64 r_4.Cols, .slice B2 r_4.Cells.length c2]) (vs := [.int .i64 r_4.Rows, .int .i64 r_4.Cols, .slice B2 r_4.Cells.length c2]) rfl k_ag_26 k_sz_26_3 (hS9.cf (i := 2) rfl) rfl rfl) (v2 := .bool r_5) (resAt_tmp rfl) ⟨B2, c2, rfl, (ST.subR (R' := []) (hS9.sel [3] rfl rfl) (fun _ h => by cases h))⟩

theorem c_impl_StateAfter (c : TCircuit) (start : Int) (B : Option Addr) (c1 n : Nat) (w0 : World) (hn : c.Gates.length = n) (hS : ST w0 [] w0 [] [⟨B, (c.Gates.flatMap enc_Gate)⟩]) {r_ : TMatrix} {r_1 : Bool} (hF : F_impl_StateAfter c start = some (r_, r_1)) :
    CV Try.prog 106 #[.agg #[.int .i64 c.Qubits, .slice B n c1], .int .i64 start] w0 (fun v w' => ∃ (B1 : Option Addr) (c2 : Nat), v = .tuple #[.agg #[.int .i64 r_.Rows, .int .i64 r_.Cols, .slice B1 r_.Cells.length c2], .bool r_1] ∧ ST w0 [] w' [⟨B1, 83, (r_.Cells.flatMap enc_Dyadic), c2 * 5⟩] []) := by
  subst hn
  unfold F_impl_StateAfter at hF
  refine cv_of_cw 42 Try.func106 rfl Try.ntmps106 rfl ?_
  refine cw_seq ?_
  refine cw_region ?_
  refine ss 2 rfl rfl (Ys_box (T := 57) (v := .agg #[.int .i64 c.Qubits, .slice B c.Gates.length c1]) (cs := [.int .i64 c.Qubits, .slice B c.Gates.length c1]) (m := 2) hS rfl rfl rfl rfl) ?_
  rintro _ w_ ⟨b, rfl, hS1⟩
  refine ss 4 rfl rfl (Ys_alloc (T := 26) (cs := [.int .i64 0, .int .i64 0, .slice none 0 0]) (m := 3) hS1 k_zero_26 rfl rfl rfl) ?_
  rintro _ w_1 ⟨b1, rfl, hS2⟩
  have hS2 : ST w0 [] _ [⟨some ⟨b, 0, none⟩, 57, [.int .i64 c.Qubits, .slice B c.Gates.length c1], 2⟩, ⟨some ⟨b1, 0, none⟩, 26, [.int .i64 0, .int .i64 0, .slice none 0 0], 3⟩] [⟨B, (c.Gates.flatMap enc_Gate)⟩] := hS2
  refine sq 5 rfl rfl (Y_assign (v := .bool false) rfl rfl) ?_
  refine rw_nil ?_
  refine cw_seq ?_
  refine cw_seq ?_
  refine cw_region ?_
  refine sq 10 rfl rfl (Y_loadA (B := some ⟨b, 0, none⟩) (i := 0) (cs := [.int .i64 c.Qubits, .slice B c.Gates.length c1]) (vs := [.int .i64 c.Qubits, .slice B c.Gates.length c1]) k_ag_57 k_sz_57_2 rfl rfl (hS2.cf (i := 0) rfl) rfl rfl) ?_
  obtain ⟨r_2, hc, hF⟩ := bind_inv hF
  refine sc 11 rfl rfl (Yc_func (g := 136) (vs := [.agg #[.int .i64 c.Qubits, .slice B c.Gates.length c1]]) k_call_136 rfl (mc rfl mn) (c_impl_IsValidCircuit c B c1 c.Gates.length _ rfl (hS2.inn0 [(true, 0)] rfl) hc)) ?_
  rintro _ w_2 ⟨rfl, hd⟩
  have hS3 := hS2.out00 hd
  have hS3 : ST w0 [] _ [⟨some ⟨b, 0, none⟩, 57, [.int .i64 c.Qubits, .slice B c.Gates.length c1], 2⟩, ⟨some ⟨b1, 0, none⟩, 26, [.int .i64 0, .int .i64 0, .slice none 0 0], 3⟩] [⟨B, (c.Gates.flatMap enc_Gate)⟩] := hS3
  refine sq 12 rfl rfl (Y_not (p := r_2) rfl rfl) ?_
  refine sq 13 rfl rfl (Y_move (v := .bool (!r_2)) rfl rfl) ?_
  refine sgq 14 (B := (!(!r_2))) (v := .int .i64 start) rfl rfl (wt_f (gd_of (t := 13) (by kernel_rfl) rfl)) (fun hg => (Y_move (v := .int .i64 start) rfl rfl)) ?_
  refine sgq 15 (B := (!(!r_2))) (v := pt (some ⟨b, 0, none⟩) 0) rfl rfl (wt_f (gd_of (t := 13) (by kernel_rfl) rfl)) (fun hg1 => (Y_fieldAddr (B := some ⟨b, 0, none⟩) (i := 0) (s := 0) k_fd_57_0_0_3 k_sz_3_1 rfl rfl)) ?_
  refine sgq 16 (B := (!(!r_2))) (v := .int .i64 c.Qubits) rfl rfl (wt_f (gd_of (t := 13) (by kernel_rfl) rfl)) (fun hg2 => (Y_load1 (B := some ⟨b, 0, none⟩) (i := 0) (cs := [.int .i64 c.Qubits, .slice B c.Gates.length c1]) (v := .int .i64 c.Qubits) k_sc_3 rfl (gv_of (B := (!(!r_2))) (v := pt (some ⟨b, 0, none⟩) 0) hg2) (hS3.cf (i := 0) rfl) rfl)) ?_
  obtain ⟨hsh, hF⟩ := chk_inv hF
  refine sgq 17 (B := (!(!r_2))) (v := .int .i64 (shlK .i64 1 c.Qubits)) rfl rfl (wt_f (gd_of (t := 13) (by kernel_rfl) rfl)) (fun hg3 => (Y_shl (k := .i64) (a := 1) (k' := .i64) (b := c.Qubits) rfl rfl (gv_of (B := (!(!r_2))) (v := .int .i64 c.Qubits) hg3) (hsh hg3))) ?_
  refine sgq 18 (B := (!(!r_2))) (v := .int .i64 (IntKind.i64.wrap ((shlK .i64 1 c.Qubits) - 1))) rfl rfl (wt_f (gd_of (t := 13) (by kernel_rfl) rfl)) (fun hg4 => (Y_sub (k := .i64) (a := (shlK .i64 1 c.Qubits)) (b := 1) rfl (gv_of (B := (!(!r_2))) (v := .int .i64 (shlK .i64 1 c.Qubits)) hg4) rfl)) ?_
  obtain ⟨r_3, hc1, hF⟩ := bind_inv hF
  refine sgc 19 (B := (!(!r_2))) (v := .bool r_3) (F := hS3.fn) rfl rfl (wt_f (gd_of (t := 13) (by kernel_rfl) rfl)) hS3 (fun hg5 => (Yc_func (g := 107) (vs := [.int .i64 start, .int .i64 0, .int .i64 (IntKind.i64.wrap ((shlK .i64 1 c.Qubits) - 1))]) k_call_107 rfl (mc (gv_of (B := (!(!r_2))) (v := .int .i64 start) hg5) (mc rfl (mc (gv_of (B := (!(!r_2))) (v := .int .i64 (IntKind.i64.wrap ((shlK .i64 1 c.Qubits) - 1))) hg5) mn))) (CV.mono (c_impl_within start 0 (IntKind.i64.wrap ((shlK .i64 1 c.Qubits) - 1)) _  (hS3.inn0 [] rfl) (gb_inv hc1 hg5)) (by rintro _ _ ⟨rfl, h⟩; exact ⟨rfl, hS3.out00 h⟩)))) ?_
  rintro w_3 hS4
  have hS4 : ST _ _ w_3 _ _ := hS4
  refine sgq 20 (B := (!(!r_2))) (v := .bool (!r_3)) rfl rfl (wt_f (gd_of (t := 13) (by kernel_rfl) rfl)) (fun hg6 => (Y_not (p := r_3) rfl (gv_of (B := (!(!r_2))) (v := .bool r_3) hg6))) ?_
  refine sq 21 rfl rfl (Y_or (b := (!r_2)) (z := (!r_3)) rfl rfl rfl rfl) ?_
  refine rw_nil ?_
  refine cw_cond (b := ((!r_2) || (!r_3))) rfl (fun hb => ?_) (fun hb => ?_)
  · skip
    have hF1 := ct hF hb
    refine cw_seq ?_
    refine cw_region ?_
    refine sq 22 rfl rfl (Y_buildS (zs := [.int .i64 0, .int .i64 0, .slice none 0 0]) (vs := []) (cs := [.int .i64 0, .int .i64 0, .slice none 0 0]) k_pl_26 k_zero_26 rfl mpn rfl) ?_
    refine ss0 rfl rfl (Ys_store (i := 1) (s := 3) (B := some ⟨b1, 0, none⟩) (T' := 26) (v := .agg #[.int .i64 0, .int .i64 0, .slice none 0 0]) (vs := [.int .i64 0, .int .i64 0, .slice none 0 0]) (k := 0) (cs' := [.int .i64 0, .int .i64 0, .slice none 0 0]) hS4 k_sz_26_3 rfl rfl rfl rfl rfl rfl rfl (Nat.le_of_ble_eq_true rfl) rfl rfl) ?_
    rintro _ w_4 ⟨rfl, hS5⟩
    have hS5 : ST w0 [] _ [⟨some ⟨b, 0, none⟩, 57, [.int .i64 c.Qubits, .slice B c.Gates.length c1], 2⟩, ⟨some ⟨b1, 0, none⟩, 26, [.int .i64 0, .int .i64 0, .slice none 0 0], 3⟩] [⟨B, (c.Gates.flatMap enc_Gate)⟩] := hS5
    refine sq 5 rfl rfl (Y_assign (v := .bool false) rfl rfl) ?_
    refine rw_nil ?_
    refine cw_ret ?_
    have hS6 := hS5.addNil 83
    obtain ⟨rfl, rfl⟩ := pr2 (some_inj hF1)
    exact ret2 Try.results106 (v1 := .agg #[.int .i64 0, .int .i64 0, .slice none 0 0]) (resAt_cellA (B := some ⟨b1, 0, none⟩) (i := 0) (cs := [.int .i64 0, .int .i64 0, .slice none 0 0]) (vs := [.int .i64 0, .int .i64 0, .slice none 0 0]) rfl k_ag_26 k_sz_26_3 (hS6.cf (i := 1) rfl) rfl rfl) (v2 := .bool false) (resAt_tmp rfl) ⟨none, 0, rfl, (ST.subR (R' := []) (hS6.sel [2] rfl rfl) (fun _ h => by cases h))⟩
  · skip
    have hF2 := cf' hF hb
    refine cw_skip ?_
    refine cw_seq ?_
    refine cw_region ?_
    refine sq 24 rfl rfl (Y_fieldAddr (B := some ⟨b, 0, none⟩) (i := 0) (s := 0) k_fd_57_0_0_3 k_sz_3_1 rfl rfl) ?_
    refine sq 25 rfl rfl (Y_load1 (B := some ⟨b, 0, none⟩) (i := 0) (cs := [.int .i64 c.Qubits, .slice B c.Gates.length c1]) (v := .int .i64 c.Qubits) k_sc_3 rfl rfl (hS4.cf (i := 0) rfl) rfl) ?_
    obtain ⟨hsh1, hF2⟩ := chk_inv hF2
    refine sq 26 rfl rfl (Y_shl (k := .i64) (a := 1) (k' := .i64) (b := c.Qubits) rfl rfl rfl hsh1) ?_
    obtain ⟨⟨r_4, r_5⟩, hc2, hF2⟩ := bind_inv hF2
    refine sc 27 rfl rfl (Yc_func (g := 72) (vs := [.int .i64 (shlK .i64 1 c.Qubits)]) k_call_72 rfl (mc rfl mn) (c_impl_IdentityMatrix (shlK .i64 1 c.Qubits) _  (hS4.inn0 [] rfl) hc2)) ?_
    rintro _ w_5 ⟨B2, c3, rfl, hd1⟩
    have hS7 := hS4.out0 hd1
    have hS7 : ST w0 [] _ [⟨some ⟨b, 0, none⟩, 57, [.int .i64 c.Qubits, .slice B c.Gates.length c1], 2⟩, ⟨some ⟨b1, 0, none⟩, 26, [.int .i64 0, .int .i64 0, .slice none 0 0], 3⟩, ⟨B2, 83, (r_4.Cells.flatMap enc_Dyadic), c3 * 5⟩] [⟨B, (c.Gates.flatMap enc_Gate)⟩] := hS7
    refine sq 23 rfl rfl (Y_move (v := .tuple #[.agg #[.int .i64 r_4.Rows, .int .i64 r_4.Cols, .slice B2 r_4.Cells.length c3], .bool r_5]) rfl rfl) ?_
    refine sq 28 rfl rfl (Y_extract (v := .agg #[.int .i64 r_4.Rows, .int .i64 r_4.Cols, .slice B2 r_4.Cells.length c3]) rfl rfl rfl) ?_
    refine sq 29 rfl rfl (Y_extract (v := .bool r_5) rfl rfl rfl) ?_
    refine ss 6 rfl rfl (Ys_alloc (T := 26) (cs := [.int .i64 0, .int .i64 0, .slice none 0 0]) (m := 3) hS7 k_zero_26 rfl rfl rfl) ?_
    rintro _ w_6 ⟨b2, rfl, hS8⟩
    have hS8 : ST w0 [] _ [⟨some ⟨b, 0, none⟩, 57, [.int .i64 c.Qubits, .slice B c.Gates.length c1], 2⟩, ⟨some ⟨b1, 0, none⟩, 26, [.int .i64 0, .int .i64 0, .slice none 0 0], 3⟩, ⟨B2, 83, (r_4.Cells.flatMap enc_Dyadic), c3 * 5⟩, ⟨some ⟨b2, 0, none⟩, 26, [.int .i64 0, .int .i64 0, .slice none 0 0], 3⟩] [⟨B, (c.Gates.flatMap enc_Gate)⟩] := hS8
    refine ss0 rfl rfl (Ys_store (i := 3) (s := 3) (B := some ⟨b2, 0, none⟩) (T' := 26) (v := .agg #[.int .i64 r_4.Rows, .int .i64 r_4.Cols, .slice B2 r_4.Cells.length c3]) (vs := [.int .i64 r_4.Rows, .int .i64 r_4.Cols, .slice B2 r_4.Cells.length c3]) (k := 0) (cs' := [.int .i64 r_4.Rows, .int .i64 r_4.Cols, .slice B2 r_4.Cells.length c3]) hS8 k_sz_26_3 rfl rfl rfl rfl rfl rfl rfl (Nat.le_of_ble_eq_true rfl) rfl rfl) ?_
    rintro _ w_7 ⟨rfl, hS9⟩
    have hS9 : ST w0 [] _ [⟨some ⟨b, 0, none⟩, 57, [.int .i64 c.Qubits, .slice B c.Gates.length c1], 2⟩, ⟨some ⟨b1, 0, none⟩, 26, [.int .i64 0, .int .i64 0, .slice none 0 0], 3⟩, ⟨B2, 83, (r_4.Cells.flatMap enc_Dyadic), c3 * 5⟩, ⟨some ⟨b2, 0, none⟩, 26, [.int .i64 r_4.Rows, .int .i64 r_4.Cols, .slice B2 r_4.Cells.length c3], 3⟩] [⟨B, (c.Gates.flatMap enc_Gate)⟩] := hS9
    refine sq 7 rfl rfl (Y_assign (v := .bool r_5) rfl rfl) ?_
    refine rw_nil ?_
    refine cw_seq ?_
    refine cw_region ?_
    refine sq 31 rfl rfl (Y_loadA (B := some ⟨b2, 0, none⟩) (i := 0) (cs := [.int .i64 r_4.Rows, .int .i64 r_4.Cols, .slice B2 r_4.Cells.length c3]) (vs := [.int .i64 r_4.Rows, .int .i64 r_4.Cols, .slice B2 r_4.Cells.length c3]) k_ag_26 k_sz_26_3 rfl rfl (hS9.cf (i := 3) rfl) rfl rfl) ?_
    refine sq 32 rfl rfl (Y_move (v := .int .i64 start) rfl rfl) ?_
    obtain ⟨⟨r_6, r_7⟩, hc3, hF2⟩ := bind_inv hF2
    refine sc 33 rfl rfl (Yc_func (g := 178) (vs := [.agg #[.int .i64 r_4.Rows, .int .i64 r_4.Cols, .slice B2 r_4.Cells.length c3], .int .i64 start]) k_call_178 rfl (mc rfl (mc rfl mn)) (c_impl_ColumnOf r_4 start B2 c3 r_4.Cells.length _ rfl (hS9.inn0 [(false, 2)] rfl) hc3)) ?_
    rintro _ w_8 ⟨B3, c4, rfl, hd2⟩
    have hS10 := hS9.out0 hd2
    have hS10 : ST w0 [] _ [⟨some ⟨b, 0, none⟩, 57, [.int .i64 c.Qubits, .slice B c.Gates.length c1], 2⟩, ⟨some ⟨b1, 0, none⟩, 26, [.int .i64 0, .int .i64 0, .slice none 0 0], 3⟩, ⟨B2, 83, (r_4.Cells.flatMap enc_Dyadic), c3 * 5⟩, ⟨some ⟨b2, 0, none⟩, 26, [.int .i64 r_4.Rows, .int .i64 r_4.Cols, .slice B2 r_4.Cells.length c3], 3⟩, ⟨B3, 83, (r_6.Cells.flatMap enc_Dyadic), c4 * 5⟩] [⟨B, (c.Gates.flatMap enc_Gate)⟩] := hS10
    refine sq 30 rfl rfl (Y_move (v := .tuple #[.agg #[.int .i64 r_6.Rows, .int .i64 r_6.Cols, .slice B3 r_6.Cells.length c4], .bool r_7]) rfl rfl) ?_
    refine sq 34 rfl rfl (Y_extract (v := .agg #[.int .i64 r_6.Rows, .int .i64 r_6.Cols, .slice B3 r_6.Cells.length c4]) rfl rfl rfl) ?_
    refine sq 35 rfl rfl (Y_extract (v := .bool r_7) rfl rfl rfl) ?_
    refine ss 8 rfl rfl (Ys_alloc (T := 26) (cs := [.int .i64 0, .int .i64 0, .slice none 0 0]) (m := 3) hS10 k_zero_26 rfl rfl rfl) ?_
    rintro _ w_9 ⟨b3, rfl, hS11⟩
    have hS11 : ST w0 [] _ [⟨some ⟨b, 0, none⟩, 57, [.int .i64 c.Qubits, .slice B c.Gates.length c1], 2⟩, ⟨some ⟨b1, 0, none⟩, 26, [.int .i64 0, .int .i64 0, .slice none 0 0], 3⟩, ⟨B2, 83, (r_4.Cells.flatMap enc_Dyadic), c3 * 5⟩, ⟨some ⟨b2, 0, none⟩, 26, [.int .i64 r_4.Rows, .int .i64 r_4.Cols, .slice B2 r_4.Cells.length c3], 3⟩, ⟨B3, 83, (r_6.Cells.flatMap enc_Dyadic), c4 * 5⟩, ⟨some ⟨b3, 0, none⟩, 26, [.int .i64 0, .int .i64 0, .slice none 0 0], 3⟩] [⟨B, (c.Gates.flatMap enc_Gate)⟩] := hS11
    refine ss0 rfl rfl (Ys_store (i := 5) (s := 3) (B := some ⟨b3, 0, none⟩) (T' := 26) (v := .agg #[.int .i64 r_6.Rows, .int .i64 r_6.Cols, .slice B3 r_6.Cells.length c4]) (vs := [.int .i64 r_6.Rows, .int .i64 r_6.Cols, .slice B3 r_6.Cells.length c4]) (k := 0) (cs' := [.int .i64 r_6.Rows, .int .i64 r_6.Cols, .slice B3 r_6.Cells.length c4]) hS11 k_sz_26_3 rfl rfl rfl rfl rfl rfl rfl (Nat.le_of_ble_eq_true rfl) rfl rfl) ?_
    rintro _ w_10 ⟨rfl, hS12⟩
    have hS12 : ST w0 [] _ [⟨some ⟨b, 0, none⟩, 57, [.int .i64 c.Qubits, .slice B c.Gates.length c1], 2⟩, ⟨some ⟨b1, 0, none⟩, 26, [.int .i64 0, .int .i64 0, .slice none 0 0], 3⟩, ⟨B2, 83, (r_4.Cells.flatMap enc_Dyadic), c3 * 5⟩, ⟨some ⟨b2, 0, none⟩, 26, [.int .i64 r_4.Rows, .int .i64 r_4.Cols, .slice B2 r_4.Cells.length c3], 3⟩, ⟨B3, 83, (r_6.Cells.flatMap enc_Dyadic), c4 * 5⟩, ⟨some ⟨b3, 0, none⟩, 26, [.int .i64 r_6.Rows, .int .i64 r_6.Cols, .slice B3 r_6.Cells.length c4], 3⟩] [⟨B, (c.Gates.flatMap enc_Gate)⟩] := hS12
    refine sq 9 rfl rfl (Y_assign (v := .bool r_7) rfl rfl) ?_
    refine rw_nil ?_
    refine cw_seq ?_
    refine cw_region ?_
    refine sq 36 rfl rfl (Y_loadA (B := some ⟨b, 0, none⟩) (i := 0) (cs := [.int .i64 c.Qubits, .slice B c.Gates.length c1]) (vs := [.int .i64 c.Qubits, .slice B c.Gates.length c1]) k_ag_57 k_sz_57_2 rfl rfl (hS12.cf (i := 0) rfl) rfl rfl) ?_
    refine sq 37 rfl rfl (Y_loadA (B := some ⟨b3, 0, none⟩) (i := 0) (cs := [.int .i64 r_6.Rows, .int .i64 r_6.Cols, .slice B3 r_6.Cells.length c4]) (vs := [.int .i64 r_6.Rows, .int .i64 r_6.Cols, .slice B3 r_6.Cells.length c4]) k_ag_26 k_sz_26_3 rfl rfl (hS12.cf (i := 5) rfl) rfl rfl) ?_
    refine sq 38 rfl rfl (Y_move (v := .bool r_7) rfl rfl) ?_
    obtain ⟨⟨r_8, r_9⟩, hc4, hF2⟩ := bind_inv hF2
    refine sc 39 rfl rfl (Yc_func (g := 137) (vs := [.agg #[.int .i64 c.Qubits, .slice B c.Gates.length c1], .agg #[.int .i64 r_6.Rows, .int .i64 r_6.Cols, .slice B3 r_6.Cells.length c4], .bool r_7]) k_call_137 rfl (mc rfl (mc rfl (mc rfl mn))) (c_impl_applied c r_6 r_7 B c1 c.Gates.length B3 c4 r_6.Cells.length _ rfl rfl (hS12.inn [false, false, false, false, true, false] rfl [(true, 0)] rfl) hc4)) ?_
    rintro _ w_11 ⟨B4, c5, rfl, hd3⟩
    have hS13 := hS12.out [false, false, false, false, true, false] rfl hd3
    have hS13 : ST w0 [] _ [⟨some ⟨b, 0, none⟩, 57, [.int .i64 c.Qubits, .slice B c.Gates.length c1], 2⟩, ⟨some ⟨b1, 0, none⟩, 26, [.int .i64 0, .int .i64 0, .slice none 0 0], 3⟩, ⟨B2, 83, (r_4.Cells.flatMap enc_Dyadic), c3 * 5⟩, ⟨some ⟨b2, 0, none⟩, 26, [.int .i64 r_4.Rows, .int .i64 r_4.Cols, .slice B2 r_4.Cells.length c3], 3⟩, ⟨some ⟨b3, 0, none⟩, 26, [.int .i64 r_6.Rows, .int .i64 r_6.Cols, .slice B3 r_6.Cells.length c4], 3⟩, ⟨B4, 83, (r_8.Cells.flatMap enc_Dyadic), c5 * 5⟩] [⟨B, (c.Gates.flatMap enc_Gate)⟩] := hS13
    refine sq 40 rfl rfl (Y_extract (v := .agg #[.int .i64 r_8.Rows, .int .i64 r_8.Cols, .slice B4 r_8.Cells.length c5]) rfl rfl rfl) ?_
    refine sq 41 rfl rfl (Y_extract (v := .bool r_9) rfl rfl rfl) ?_
    refine ss0 rfl rfl (Ys_store (i := 1) (s := 3) (B := some ⟨b1, 0, none⟩) (T' := 26) (v := .agg #[.int .i64 r_8.Rows, .int .i64 r_8.Cols, .slice B4 r_8.Cells.length c5]) (vs := [.int .i64 r_8.Rows, .int .i64 r_8.Cols, .slice B4 r_8.Cells.length c5]) (k := 0) (cs' := [.int .i64 r_8.Rows, .int .i64 r_8.Cols, .slice B4 r_8.Cells.length c5]) hS13 k_sz_26_3 rfl rfl rfl rfl rfl rfl rfl (Nat.le_of_ble_eq_true rfl) rfl rfl) ?_
    rintro _ w_12 ⟨rfl, hS14⟩
    have hS14 : ST w0 [] _ [⟨some ⟨b, 0, none⟩, 57, [.int .i64 c.Qubits, .slice B c.Gates.length c1], 2⟩, ⟨some ⟨b1, 0, none⟩, 26, [.int .i64 r_8.Rows, .int .i64 r_8.Cols, .slice B4 r_8.Cells.length c5], 3⟩, ⟨B2, 83, (r_4.Cells.flatMap enc_Dyadic), c3 * 5⟩, ⟨some ⟨b2, 0, none⟩, 26, [.int .i64 r_4.Rows, .int .i64 r_4.Cols, .slice B2 r_4.Cells.length c3], 3⟩, ⟨some ⟨b3, 0, none⟩, 26, [.int .i64 r_6.Rows, .int .i64 r_6.Cols, .slice B3 r_6.Cells.length c4], 3⟩, ⟨B4, 83, (r_8.Cells.flatMap enc_Dyadic), c5 * 5⟩] [⟨B, (c.Gates.flatMap enc_Gate)⟩] := hS14
    refine sq 5 rfl rfl (Y_assign (v := .bool r_9) rfl rfl) ?_
    refine rw_nil ?_
    refine cw_ret ?_
    obtain ⟨rfl, rfl⟩ := pr2 (some_inj hF2)
    exact ret2 Try.results106 (v1 := .agg #[.int .i64 r_8.Rows, .int .i64 r_8.Cols, .slice B4 r_8.Cells.length c5]) (resAt_cellA (B := some ⟨b1, 0, none⟩) (i := 0) (cs := [.int .i64 r_8.Rows, .int .i64 r_8.Cols, .slice B4 r_8.Cells.length c5]) (vs := [.int .i64 r_8.Rows, .int .i64 r_8.Cols, .slice B4 r_8.Cells.length c5]) rfl k_ag_26 k_sz_26_3 (hS14.cf (i := 1) rfl) rfl rfl) (v2 := .bool r_9) (resAt_tmp rfl) ⟨B4, c5, rfl, (ST.subR (R' := []) (hS14.sel [5] rfl rfl) (fun _ h => by cases h))⟩

theorem c_impl_Conjugate (x : TRing)  (w0 : World)  (hS : ST w0 [] w0 [] []) {r_ : TRing} {r_1 : Bool} (hF : F_impl_Conjugate x = some (r_, r_1)) :
    CV Try.prog 244 #[.agg #[.int .i64 x.A, .int .i64 x.B, .int .i64 x.C, .int .i64 x.D]] w0 (fun v w' => v = .tuple #[.agg #[.int .i64 r_.A, .int .i64 r_.B, .int .i64 r_.C, .int .i64 r_.D], .bool r_1] ∧ ST w0 [] w' [] []) := by
  unfold F_impl_Conjugate at hF
  refine cv_of_cw 21 Try.func244 rfl Try.ntmps244 rfl ?_
  refine cw_seq ?_
  refine cw_region ?_
  refine ss 1 rfl rfl (Ys_box (T := 81) (v := .agg #[.int .i64 x.A, .int .i64 x.B, .int .i64 x.C, .int .i64 x.D]) (cs := [.int .i64 x.A, .int .i64 x.B, .int .i64 x.C, .int .i64 x.D]) (m := 4) hS rfl rfl rfl rfl) ?_
  rintro _ w_ ⟨b, rfl, hS1⟩
  refine ss 2 rfl rfl (Ys_alloc (T := 81) (cs := [.int .i64 0, .int .i64 0, .int .i64 0, .int .i64 0]) (m := 4) hS1 k_zero_81 rfl rfl rfl) ?_
  rintro _ w_1 ⟨b1, rfl, hS2⟩
  have hS2 : ST w0 [] _ [⟨some ⟨b, 0, none⟩, 81, [.int .i64 x.A, .int .i64 x.B, .int .i64 x.C, .int .i64 x.D], 4⟩, ⟨some ⟨b1, 0, none⟩, 81, [.int .i64 0, .int .i64 0, .int .i64 0, .int .i64 0], 4⟩] [] := hS2
  refine sq 3 rfl rfl (Y_assign (v := .bool false) rfl rfl) ?_
  refine rw_nil ?_
  refine cw_seq ?_
  refine cw_region ?_
  refine sq 4 rfl rfl (Y_fieldAddr (B := some ⟨b, 0, none⟩) (i := 0) (s := 0) k_fd_81_0_0_3 k_sz_3_1 rfl rfl) ?_
  refine sq 5 rfl rfl (Y_load1 (B := some ⟨b, 0, none⟩) (i := 0) (cs := [.int .i64 x.A, .int .i64 x.B, .int .i64 x.C, .int .i64 x.D]) (v := .int .i64 x.A) k_sc_3 rfl rfl (hS2.cf (i := 0) rfl) rfl) ?_
  refine sq 6 rfl rfl (Y_fieldAddr (B := some ⟨b, 0, none⟩) (i := 0) (s := 0) k_fd_81_3_3_3 k_sz_3_1 rfl rfl) ?_
  refine sq 7 rfl rfl (Y_load1 (B := some ⟨b, 0, none⟩) (i := 3) (cs := [.int .i64 x.A, .int .i64 x.B, .int .i64 x.C, .int .i64 x.D]) (v := .int .i64 x.D) k_sc_3 rfl rfl (hS2.cf (i := 0) rfl) rfl) ?_
  refine sq 8 rfl rfl (Y_neg (k := .i64) (a := x.D) rfl rfl) ?_
  refine sq 9 rfl rfl (Y_fieldAddr (B := some ⟨b, 0, none⟩) (i := 0) (s := 0) k_fd_81_2_2_3 k_sz_3_1 rfl rfl) ?_
  refine sq 10 rfl rfl (Y_load1 (B := some ⟨b, 0, none⟩) (i := 2) (cs := [.int .i64 x.A, .int .i64 x.B, .int .i64 x.C, .int .i64 x.D]) (v := .int .i64 x.C) k_sc_3 rfl rfl (hS2.cf (i := 0) rfl) rfl) ?_
  refine sq 11 rfl rfl (Y_neg (k := .i64) (a := x.C) rfl rfl) ?_
  refine sq 12 rfl rfl (Y_fieldAddr (B := some ⟨b, 0, none⟩) (i := 0) (s := 0) k_fd_81_1_1_3 k_sz_3_1 rfl rfl) ?_
  refine sq 13 rfl rfl (Y_load1 (B := some ⟨b, 0, none⟩) (i := 1) (cs := [.int .i64 x.A, .int .i64 x.B, .int .i64 x.C, .int .i64 x.D]) (v := .int .i64 x.B) k_sc_3 rfl rfl (hS2.cf (i := 0) rfl) rfl) ?_
  refine sq 14 rfl rfl (Y_neg (k := .i64) (a := x.B) rfl rfl) ?_
  refine sq 15 rfl rfl (Y_buildS (zs := [.int .i64 0, .int .i64 0, .int .i64 0, .int .i64 0]) (vs := [(0, .int .i64 x.A), (1, .int .i64 (IntKind.i64.wrap (-x.D))), (2, .int .i64 (IntKind.i64.wrap (-x.C))), (3, .int .i64 (IntKind.i64.wrap (-x.B)))]) (cs := [.int .i64 x.A, .int .i64 (IntKind.i64.wrap (-x.D)), .int .i64 (IntKind.i64.wrap (-x.C)), .int .i64 (IntKind.i64.wrap (-x.B))]) k_pl_81 k_zero_81 rfl (mpc rfl (mpc rfl (mpc rfl (mpc rfl mpn)))) rfl) ?_
  refine sq 16 rfl rfl (Y_loadA (B := some ⟨b, 0, none⟩) (i := 0) (cs := [.int .i64 x.A, .int .i64 x.B, .int .i64 x.C, .int .i64 x.D]) (vs := [.int .i64 x.A, .int .i64 x.B, .int .i64 x.C, .int .i64 x.D]) k_ag_81 k_sz_81_4 rfl rfl (hS2.cf (i := 0) rfl) rfl rfl) ?_
  refine ss 17 rfl rfl (Ys_bslice (s := 4) (len := 1) (vs := [(0, .agg #[.int .i64 x.A, .int .i64 x.B, .int .i64 x.C, .int .i64 x.D])]) (cs := [.int .i64 x.A, .int .i64 x.B, .int .i64 x.C, .int .i64 x.D]) (zs := [.int .i64 0, .int .i64 0, .int .i64 0, .int .i64 0]) (m := 4) hS2 k_sl_287_81 k_sz_81_4 k_zc_81 rfl (mpc rfl mpn) rfl rfl rfl (by kernel_rfl) (by kernel_rfl) rfl) ?_
  rintro _ w_2 ⟨b2, rfl, hS3⟩
  have hS3 : ST w0 [] _ [⟨some ⟨b, 0, none⟩, 81, [.int .i64 x.A, .int .i64 x.B, .int .i64 x.C, .int .i64 x.D], 4⟩, ⟨some ⟨b1, 0, none⟩, 81, [.int .i64 0, .int .i64 0, .int .i64 0, .int .i64 0], 4⟩, ⟨some ⟨b2, 0, none⟩, 81, ([x].flatMap enc_Ring), 1 * 4⟩] [] := hS3
  obtain ⟨⟨r_2, r_3⟩, hc, hF⟩ := bind_inv hF
  refine sc 18 rfl rfl (Yc_func (g := 247) (vs := [.agg #[.int .i64 x.A, .int .i64 (IntKind.i64.wrap (-x.D)), .int .i64 (IntKind.i64.wrap (-x.C)), .int .i64 (IntKind.i64.wrap (-x.B))], .slice (some ⟨b2, 0, none⟩) 1 1]) k_call_247 rfl (mc rfl (mc rfl mn)) (c_impl_ringIf (TRing.mk x.A (IntKind.i64.wrap (-x.D)) (IntKind.i64.wrap (-x.C)) (IntKind.i64.wrap (-x.B))) [x] (some ⟨b2, 0, none⟩) 1 1 _ rfl (hS3.inn [false, false, true] rfl [] rfl) hc)) ?_
  rintro _ w_3 ⟨rfl, hd⟩
  have hS4 := hS3.out [false, false, true] rfl hd
  have hS4 : ST w0 [] _ [⟨some ⟨b, 0, none⟩, 81, [.int .i64 x.A, .int .i64 x.B, .int .i64 x.C, .int .i64 x.D], 4⟩, ⟨some ⟨b1, 0, none⟩, 81, [.int .i64 0, .int .i64 0, .int .i64 0, .int .i64 0], 4⟩] [] := hS4
  refine sq 19 rfl rfl (Y_extract (v := .agg #[.int .i64 r_2.A, .int .i64 r_2.B, .int .i64 r_2.C, .int .i64 r_2.D]) rfl rfl rfl) ?_
  refine sq 20 rfl rfl (Y_extract (v := .bool r_3) rfl rfl rfl) ?_
  refine ss0 rfl rfl (Ys_store (i := 1) (s := 4) (B := some ⟨b1, 0, none⟩) (T' := 81) (v := .agg #[.int .i64 r_2.A, .int .i64 r_2.B, .int .i64 r_2.C, .int .i64 r_2.D]) (vs := [.int .i64 r_2.A, .int .i64 r_2.B, .int .i64 r_2.C, .int .i64 r_2.D]) (k := 0) (cs' := [.int .i64 r_2.A, .int .i64 r_2.B, .int .i64 r_2.C, .int .i64 r_2.D]) hS4 k_sz_81_4 rfl rfl rfl rfl rfl rfl rfl (Nat.le_of_ble_eq_true rfl) rfl rfl) ?_
  rintro _ w_4 ⟨rfl, hS5⟩
  have hS5 : ST w0 [] _ [⟨some ⟨b, 0, none⟩, 81, [.int .i64 x.A, .int .i64 x.B, .int .i64 x.C, .int .i64 x.D], 4⟩, ⟨some ⟨b1, 0, none⟩, 81, [.int .i64 r_2.A, .int .i64 r_2.B, .int .i64 r_2.C, .int .i64 r_2.D], 4⟩] [] := hS5
  refine sq 3 rfl rfl (Y_assign (v := .bool r_3) rfl rfl) ?_
  refine rw_nil ?_
  refine cw_ret ?_
  obtain ⟨rfl, rfl⟩ := pr2 (some_inj hF)
  exact ret2 Try.results244 (v1 := .agg #[.int .i64 r_2.A, .int .i64 r_2.B, .int .i64 r_2.C, .int .i64 r_2.D]) (resAt_cellA (B := some ⟨b1, 0, none⟩) (i := 0) (cs := [.int .i64 r_2.A, .int .i64 r_2.B, .int .i64 r_2.C, .int .i64 r_2.D]) (vs := [.int .i64 r_2.A, .int .i64 r_2.B, .int .i64 r_2.C, .int .i64 r_2.D]) rfl k_ag_81 k_sz_81_4 (hS5.cf (i := 1) rfl) rfl rfl) (v2 := .bool r_3) (resAt_tmp rfl) ⟨rfl, (ST.subR (R' := []) (hS5.sel [] rfl rfl) (fun _ h => by cases h))⟩

theorem c_impl_ConjDyadic (x : TDyadic)  (w0 : World)  (hS : ST w0 [] w0 [] []) {r_ : TDyadic} {r_1 : Bool} (hF : F_impl_ConjDyadic x = some (r_, r_1)) :
    CV Try.prog 179 #[.agg #[.int .i64 x.Num.A, .int .i64 x.Num.B, .int .i64 x.Num.C, .int .i64 x.Num.D, .int .i64 x.Exp]] w0 (fun v w' => v = .tuple #[.agg #[.int .i64 r_.Num.A, .int .i64 r_.Num.B, .int .i64 r_.Num.C, .int .i64 r_.Num.D, .int .i64 r_.Exp], .bool r_1] ∧ ST w0 [] w' [] []) := by
  unfold F_impl_ConjDyadic at hF
  refine cv_of_cw 20 Try.func179 rfl Try.ntmps179 rfl ?_
  refine cw_seq ?_
  refine cw_region ?_
  refine ss 1 rfl rfl (Ys_box (T := 83) (v := .agg #[.int .i64 x.Num.A, .int .i64 x.Num.B, .int .i64 x.Num.C, .int .i64 x.Num.D, .int .i64 x.Exp]) (cs := [.int .i64 x.Num.A, .int .i64 x.Num.B, .int .i64 x.Num.C, .int .i64 x.Num.D, .int .i64 x.Exp]) (m := 5) hS rfl rfl rfl rfl) ?_
  rintro _ w_ ⟨b, rfl, hS1⟩
  refine ss 2 rfl rfl (Ys_alloc (T := 83) (cs := [.int .i64 0, .int .i64 0, .int .i64 0, .int .i64 0, .int .i64 0]) (m := 5) hS1 k_zero_83 rfl rfl rfl) ?_
  rintro _ w_1 ⟨b1, rfl, hS2⟩
  have hS2 : ST w0 [] _ [⟨some ⟨b, 0, none⟩, 83, [.int .i64 x.Num.A, .int .i64 x.Num.B, .int .i64 x.Num.C, .int .i64 x.Num.D, .int .i64 x.Exp], 5⟩, ⟨some ⟨b1, 0, none⟩, 83, [.int .i64 0, .int .i64 0, .int .i64 0, .int .i64 0, .int .i64 0], 5⟩] [] := hS2
  refine sq 3 rfl rfl (Y_assign (v := .bool false) rfl rfl) ?_
  refine rw_nil ?_
  refine cw_seq ?_
  refine cw_seq ?_
  refine cw_region ?_
  refine sq 6 rfl rfl (Y_loadA (B := some ⟨b, 0, none⟩) (i := 0) (cs := [.int .i64 x.Num.A, .int .i64 x.Num.B, .int .i64 x.Num.C, .int .i64 x.Num.D, .int .i64 x.Exp]) (vs := [.int .i64 x.Num.A, .int .i64 x.Num.B, .int .i64 x.Num.C, .int .i64 x.Num.D, .int .i64 x.Exp]) k_ag_83 k_sz_83_5 rfl rfl (hS2.cf (i := 0) rfl) rfl rfl) ?_
  obtain ⟨r_2, hc, hF⟩ := bind_inv hF
  refine sc 7 rfl rfl (Yc_func (g := 172) (vs := [.agg #[.int .i64 x.Num.A, .int .i64 x.Num.B, .int .i64 x.Num.C, .int .i64 x.Num.D, .int .i64 x.Exp]]) k_call_172 rfl (mc rfl mn) (c_impl_IsValidDyadic x _  (hS2.inn0 [] rfl) hc)) ?_
  rintro _ w_2 ⟨rfl, hd⟩
  have hS3 := hS2.out00 hd
  have hS3 : ST w0 [] _ [⟨some ⟨b, 0, none⟩, 83, [.int .i64 x.Num.A, .int .i64 x.Num.B, .int .i64 x.Num.C, .int .i64 x.Num.D, .int .i64 x.Exp], 5⟩, ⟨some ⟨b1, 0, none⟩, 83, [.int .i64 0, .int .i64 0, .int .i64 0, .int .i64 0, .int .i64 0], 5⟩] [] := hS3
  refine sq 8 rfl rfl (Y_not (p := r_2) rfl rfl) ?_
  refine rw_nil ?_
  refine cw_cond (b := (!r_2)) rfl (fun hb => ?_) (fun hb => ?_)
  · skip
    have hF1 := ct hF hb
    refine cw_seq ?_
    refine cw_region ?_
    refine sq 9 rfl rfl (Y_buildS (zs := [.int .i64 0, .int .i64 0, .int .i64 0, .int .i64 0, .int .i64 0]) (vs := []) (cs := [.int .i64 0, .int .i64 0, .int .i64 0, .int .i64 0, .int .i64 0]) k_pl_83 k_zero_83 rfl mpn rfl) ?_
    refine ss0 rfl rfl (Ys_store (i := 1) (s := 5) (B := some ⟨b1, 0, none⟩) (T' := 83) (v := .agg #[.int .i64 0, .int .i64 0, .int .i64 0, .int .i64 0, .int .i64 0]) (vs := [.int .i64 0, .int .i64 0, .int .i64 0, .int .i64 0, .int .i64 0]) (k := 0) (cs' := [.int .i64 0, .int .i64 0, .int .i64 0, .int .i64 0, .int .i64 0]) hS3 k_sz_83_5 rfl rfl rfl rfl rfl rfl rfl (Nat.le_of_ble_eq_true rfl) rfl rfl) ?_
    rintro _ w_3 ⟨rfl, hS4⟩
    have hS4 : ST w0 [] _ [⟨some ⟨b, 0, none⟩, 83, [.int .i64 x.Num.A, .int .i64 x.Num.B, .int .i64 x.Num.C, .int .i64 x.Num.D, .int .i64 x.Exp], 5⟩, ⟨some ⟨b1, 0, none⟩, 83, [.int .i64 0, .int .i64 0, .int .i64 0, .int .i64 0, .int .i64 0], 5⟩] [] := hS4
    refine sq 3 rfl rfl (Y_assign (v := .bool false) rfl rfl) ?_
    refine rw_nil ?_
    refine cw_ret ?_
    obtain ⟨rfl, rfl⟩ := pr2 (some_inj hF1)
    exact ret2 Try.results179 (v1 := .agg #[.int .i64 0, .int .i64 0, .int .i64 0, .int .i64 0, .int .i64 0]) (resAt_cellA (B := some ⟨b1, 0, none⟩) (i := 0) (cs := [.int .i64 0, .int .i64 0, .int .i64 0, .int .i64 0, .int .i64 0]) (vs := [.int .i64 0, .int .i64 0, .int .i64 0, .int .i64 0, .int .i64 0]) rfl k_ag_83 k_sz_83_5 (hS4.cf (i := 1) rfl) rfl rfl) (v2 := .bool false) (resAt_tmp rfl) ⟨rfl, (ST.subR (R' := []) (hS4.sel [] rfl rfl) (fun _ h => by cases h))⟩
  · skip
    have hF2 := cf' hF hb
    refine cw_skip ?_
    refine cw_seq ?_
    refine cw_region ?_
    refine sq 11 rfl rfl (Y_fieldAddr (B := some ⟨b, 0, none⟩) (i := 0) (s := 3) k_fd_83_0_0_81 k_sz_81_4 rfl rfl) ?_
    refine sq 12 rfl rfl (Y_loadA (B := some ⟨b, 0, none⟩) (i := 0) (cs := [.int .i64 x.Num.A, .int .i64 x.Num.B, .int .i64 x.Num.C, .int .i64 x.Num.D, .int .i64 x.Exp]) (vs := [.int .i64 x.Num.A, .int .i64 x.Num.B, .int .i64 x.Num.C, .int .i64 x.Num.D]) k_ag_81 k_sz_81_4 rfl rfl (hS3.cf (i := 0) rfl) rfl rfl) ?_
    obtain ⟨⟨r_3, r_4⟩, hc1, hF2⟩ := bind_inv hF2
    refine sc 13 rfl rfl (Yc_func (g := 244) (vs := [.agg #[.int .i64 x.Num.A, .int .i64 x.Num.B, .int .i64 x.Num.C, .int .i64 x.Num.D]]) k_call_244 rfl (mc rfl mn) (c_impl_Conjugate x.Num _  (hS3.inn0 [] rfl) hc1)) ?_
    rintro _ w_4 ⟨rfl, hd1⟩
    have hS5 := hS3.out00 hd1
    have hS5 : ST w0 [] _ [⟨some ⟨b, 0, none⟩, 83, [.int .i64 x.Num.A, .int .i64 x.Num.B, .int .i64 x.Num.C, .int .i64 x.Num.D, .int .i64 x.Exp], 5⟩, ⟨some ⟨b1, 0, none⟩, 83, [.int .i64 0, .int .i64 0, .int .i64 0, .int .i64 0, .int .i64 0], 5⟩] [] := hS5
    refine sq 10 rfl rfl (Y_move (v := .tuple #[.agg #[.int .i64 r_3.A, .int .i64 r_3.B, .int .i64 r_3.C, .int .i64 r_3.D], .bool r_4]) rfl rfl) ?_
    refine sq 14 rfl rfl (Y_extract (v := .agg #[.int .i64 r_3.A, .int .i64 r_3.B, .int .i64 r_3.C, .int .i64 r_3.D]) rfl rfl rfl) ?_
    refine sq 15 rfl rfl (Y_extract (v := .bool r_4) rfl rfl rfl) ?_
    refine ss 4 rfl rfl (Ys_alloc (T := 81) (cs := [.int .i64 0, .int .i64 0, .int .i64 0, .int .i64 0]) (m := 4) hS5 k_zero_81 rfl rfl rfl) ?_
    rintro _ w_5 ⟨b2, rfl, hS6⟩
    have hS6 : ST w0 [] _ [⟨some ⟨b, 0, none⟩, 83, [.int .i64 x.Num.A, .int .i64 x.Num.B, .int .i64 x.Num.C, .int .i64 x.Num.D, .int .i64 x.Exp], 5⟩, ⟨some ⟨b1, 0, none⟩, 83, [.int .i64 0, .int .i64 0, .int .i64 0, .int .i64 0, .int .i64 0], 5⟩, ⟨some ⟨b2, 0, none⟩, 81, [.int .i64 0, .int .i64 0, .int .i64 0, .int .i64 0], 4⟩] [] := hS6
    refine ss0 rfl rfl (Ys_store (i := 2) (s := 4) (B := some ⟨b2, 0, none⟩) (T' := 81) (v := .agg #[.int .i64 r_3.A, .int .i64 r_3.B, .int .i64 r_3.C, .int .i64 r_3.D]) (vs := [.int .i64 r_3.A, .int .i64 r_3.B, .int .i64 r_3.C, .int .i64 r_3.D]) (k := 0) (cs' := [.int .i64 r_3.A, .int .i64 r_3.B, .int .i64 r_3.C, .int .i64 r_3.D]) hS6 k_sz_81_4 rfl rfl rfl rfl rfl rfl rfl (Nat.le_of_ble_eq_true rfl) rfl rfl) ?_
    rintro _ w_6 ⟨rfl, hS7⟩
    have hS7 : ST w0 [] _ [⟨some ⟨b, 0, none⟩, 83, [.int .i64 x.Num.A, .int .i64 x.Num.B, .int .i64 x.Num.C, .int .i64 x.Num.D, .int .i64 x.Exp], 5⟩, ⟨some ⟨b1, 0, none⟩, 83, [.int .i64 0, .int .i64 0, .int .i64 0, .int .i64 0, .int .i64 0], 5⟩, ⟨some ⟨b2, 0, none⟩, 81, [.int .i64 r_3.A, .int .i64 r_3.B, .int .i64 r_3.C, .int .i64 r_3.D], 4⟩] [] := hS7
    refine sq 5 rfl rfl (Y_assign (v := .bool r_4) rfl rfl) ?_
    refine rw_nil ?_
    refine cw_seq ?_
    refine cw_region ?_
    refine sq 16 rfl rfl (Y_loadA (B := some ⟨b2, 0, none⟩) (i := 0) (cs := [.int .i64 r_3.A, .int .i64 r_3.B, .int .i64 r_3.C, .int .i64 r_3.D]) (vs := [.int .i64 r_3.A, .int .i64 r_3.B, .int .i64 r_3.C, .int .i64 r_3.D]) k_ag_81 k_sz_81_4 rfl rfl (hS7.cf (i := 2) rfl) rfl rfl) ?_
    refine sq 17 rfl rfl (Y_fieldAddr (B := some ⟨b, 0, none⟩) (i := 0) (s := 0) k_fd_83_1_4_3 k_sz_3_1 rfl rfl) ?_
    refine sq 18 rfl rfl (Y_load1 (B := some ⟨b, 0, none⟩) (i := 4) (cs := [.int .i64 x.Num.A, .int .i64 x.Num.B, .int .i64 x.Num.C, .int .i64 x.Num.D, .int .i64 x.Exp]) (v := .int .i64 x.Exp) k_sc_3 rfl rfl (hS7.cf (i := 0) rfl) rfl) ?_
    refine sq 19 rfl rfl (Y_buildS (zs := [.int .i64 0, .int .i64 0, .int .i64 0, .int .i64 0, .int .i64 0]) (vs := [(0, .agg #[.int .i64 r_3.A, .int .i64 r_3.B, .int .i64 r_3.C, .int .i64 r_3.D]), (1, .int .i64 x.Exp)]) (cs := [.int .i64 r_3.A, .int .i64 r_3.B, .int .i64 r_3.C, .int .i64 r_3.D, .int .i64 x.Exp]) k_pl_83 k_zero_83 rfl (mpc rfl (mpc rfl mpn)) rfl) ?_
    refine ss0 rfl rfl (Ys_store (i := 1) (s := 5) (B := some ⟨b1, 0, none⟩) (T' := 83) (v := .agg #[.int .i64 r_3.A, .int .i64 r_3.B, .int .i64 r_3.C, .int .i64 r_3.D, .int .i64 x.Exp]) (vs := [.int .i64 r_3.A, .int .i64 r_3.B, .int .i64 r_3.C, .int .i64 r_3.D, .int .i64 x.Exp]) (k := 0) (cs' := [.int .i64 r_3.A, .int .i64 r_3.B, .int .i64 r_3.C, .int .i64 r_3.D, .int .i64 x.Exp]) hS7 k_sz_83_5 rfl rfl rfl rfl rfl rfl rfl (Nat.le_of_ble_eq_true rfl) rfl rfl) ?_
    rintro _ w_7 ⟨rfl, hS8⟩
    have hS8 : ST w0 [] _ [⟨some ⟨b, 0, none⟩, 83, [.int .i64 x.Num.A, .int .i64 x.Num.B, .int .i64 x.Num.C, .int .i64 x.Num.D, .int .i64 x.Exp], 5⟩, ⟨some ⟨b1, 0, none⟩, 83, [.int .i64 r_3.A, .int .i64 r_3.B, .int .i64 r_3.C, .int .i64 r_3.D, .int .i64 x.Exp], 5⟩, ⟨some ⟨b2, 0, none⟩, 81, [.int .i64 r_3.A, .int .i64 r_3.B, .int .i64 r_3.C, .int .i64 r_3.D], 4⟩] [] := hS8
    refine sq 3 rfl rfl (Y_assign (v := .bool true) rfl rfl) ?_
    refine rw_nil ?_
    refine cw_ret ?_
    obtain ⟨rfl, rfl⟩ := pr2 (some_inj hF2)
    exact ret2 Try.results179 (v1 := .agg #[.int .i64 r_3.A, .int .i64 r_3.B, .int .i64 r_3.C, .int .i64 r_3.D, .int .i64 x.Exp]) (resAt_cellA (B := some ⟨b1, 0, none⟩) (i := 0) (cs := [.int .i64 r_3.A, .int .i64 r_3.B, .int .i64 r_3.C, .int .i64 r_3.D, .int .i64 x.Exp]) (vs := [.int .i64 r_3.A, .int .i64 r_3.B, .int .i64 r_3.C, .int .i64 r_3.D, .int .i64 x.Exp]) rfl k_ag_83 k_sz_83_5 (hS8.cf (i := 1) rfl) rfl rfl) (v2 := .bool true) (resAt_tmp rfl) ⟨rfl, (ST.subR (R' := []) (hS8.sel [] rfl rfl) (fun _ h => by cases h))⟩

theorem c_impl_NormSquare (x : TDyadic)  (w0 : World)  (hS : ST w0 [] w0 [] []) {r_ : TDyadic} {r_1 : Bool} (hF : F_impl_NormSquare x = some (r_, r_1)) :
    CV Try.prog 108 #[.agg #[.int .i64 x.Num.A, .int .i64 x.Num.B, .int .i64 x.Num.C, .int .i64 x.Num.D, .int .i64 x.Exp]] w0 (fun v w' => v = .tuple #[.agg #[.int .i64 r_.Num.A, .int .i64 r_.Num.B, .int .i64 r_.Num.C, .int .i64 r_.Num.D, .int .i64 r_.Exp], .bool r_1] ∧ ST w0 [] w' [] []) := by
  unfold F_impl_NormSquare at hF
  refine cv_of_cw 19 Try.func108 rfl Try.ntmps108 rfl ?_
  refine cw_seq ?_
  refine cw_region ?_
  refine ss 1 rfl rfl (Ys_box (T := 83) (v := .agg #[.int .i64 x.Num.A, .int .i64 x.Num.B, .int .i64 x.Num.C, .int .i64 x.Num.D, .int .i64 x.Exp]) (cs := [.int .i64 x.Num.A, .int .i64 x.Num.B, .int .i64 x.Num.C, .int .i64 x.Num.D, .int .i64 x.Exp]) (m := 5) hS rfl rfl rfl rfl) ?_
  rintro _ w_ ⟨b, rfl, hS1⟩
  refine ss 2 rfl rfl (Ys_alloc (T := 83) (cs := [.int .i64 0, .int .i64 0, .int .i64 0, .int .i64 0, .int .i64 0]) (m := 5) hS1 k_zero_83 rfl rfl rfl) ?_
  rintro _ w_1 ⟨b1, rfl, hS2⟩
  have hS2 : ST w0 [] _ [⟨some ⟨b, 0, none⟩, 83, [.int .i64 x.Num.A, .int .i64 x.Num.B, .int .i64 x.Num.C, .int .i64 x.Num.D, .int .i64 x.Exp], 5⟩, ⟨some ⟨b1, 0, none⟩, 83, [.int .i64 0, .int .i64 0, .int .i64 0, .int .i64 0, .int .i64 0], 5⟩] [] := hS2
  refine sq 3 rfl rfl (Y_assign (v := .bool false) rfl rfl) ?_
  refine rw_nil ?_
  refine cw_seq ?_
  refine cw_region ?_
  refine sq 7 rfl rfl (Y_loadA (B := some ⟨b, 0, none⟩) (i := 0) (cs := [.int .i64 x.Num.A, .int .i64 x.Num.B, .int .i64 x.Num.C, .int .i64 x.Num.D, .int .i64 x.Exp]) (vs := [.int .i64 x.Num.A, .int .i64 x.Num.B, .int .i64 x.Num.C, .int .i64 x.Num.D, .int .i64 x.Exp]) k_ag_83 k_sz_83_5 rfl rfl (hS2.cf (i := 0) rfl) rfl rfl) ?_
  obtain ⟨⟨r_2, r_3⟩, hc, hF⟩ := bind_inv hF
  refine sc 8 rfl rfl (Yc_func (g := 179) (vs := [.agg #[.int .i64 x.Num.A, .int .i64 x.Num.B, .int .i64 x.Num.C, .int .i64 x.Num.D, .int .i64 x.Exp]]) k_call_179 rfl (mc rfl mn) (c_impl_ConjDyadic x _  (hS2.inn0 [] rfl) hc)) ?_
  rintro _ w_2 ⟨rfl, hd⟩
  have hS3 := hS2.out00 hd
  have hS3 : ST w0 [] _ [⟨some ⟨b, 0, none⟩, 83, [.int .i64 x.Num.A, .int .i64 x.Num.B, .int .i64 x.Num.C, .int .i64 x.Num.D, .int .i64 x.Exp], 5⟩, ⟨some ⟨b1, 0, none⟩, 83, [.int .i64 0, .int .i64 0, .int .i64 0, .int .i64 0, .int .i64 0], 5⟩] [] := hS3
  refine sq 6 rfl rfl (Y_move (v := .tuple #[.agg #[.int .i64 r_2.Num.A, .int .i64 r_2.Num.B, .int .i64 r_2.Num.C, .int .i64 r_2.Num.D, .int .i64 r_2.Exp], .bool r_3]) rfl rfl) ?_
  refine sq 9 rfl rfl (Y_extract (v := .agg #[.int .i64 r_2.Num.A, .int .i64 r_2.Num.B, .int .i64 r_2.Num.C, .int .i64 r_2.Num.D, .int .i64 r_2.Exp]) rfl rfl rfl) ?_
  refine sq 10 rfl rfl (Y_extract (v := .bool r_3) rfl rfl rfl) ?_
  refine ss 4 rfl rfl (Ys_alloc (T := 83) (cs := [.int .i64 0, .int .i64 0, .int .i64 0, .int .i64 0, .int .i64 0]) (m := 5) hS3 k_zero_83 rfl rfl rfl) ?_
  rintro _ w_3 ⟨b2, rfl, hS4⟩
  have hS4 : ST w0 [] _ [⟨some ⟨b, 0, none⟩, 83, [.int .i64 x.Num.A, .int .i64 x.Num.B, .int .i64 x.Num.C, .int .i64 x.Num.D, .int .i64 x.Exp], 5⟩, ⟨some ⟨b1, 0, none⟩, 83, [.int .i64 0, .int .i64 0, .int .i64 0, .int .i64 0, .int .i64 0], 5⟩, ⟨some ⟨b2, 0, none⟩, 83, [.int .i64 0, .int .i64 0, .int .i64 0, .int .i64 0, .int .i64 0], 5⟩] [] := hS4
  refine ss0 rfl rfl (Ys_store (i := 2) (s := 5) (B := some ⟨b2, 0, none⟩) (T' := 83) (v := .agg #[.int .i64 r_2.Num.A, .int .i64 r_2.Num.B, .int .i64 r_2.Num.C, .int .i64 r_2.Num.D, .int .i64 r_2.Exp]) (vs := [.int .i64 r_2.Num.A, .int .i64 r_2.Num.B, .int .i64 r_2.Num.C, .int .i64 r_2.Num.D, .int .i64 r_2.Exp]) (k := 0) (cs' := [.int .i64 r_2.Num.A, .int .i64 r_2.Num.B, .int .i64 r_2.Num.C, .int .i64 r_2.Num.D, .int .i64 r_2.Exp]) hS4 k_sz_83_5 rfl rfl rfl rfl rfl rfl rfl (Nat.le_of_ble_eq_true rfl) rfl rfl) ?_
  rintro _ w_4 ⟨rfl, hS5⟩
  have hS5 : ST w0 [] _ [⟨some ⟨b, 0, none⟩, 83, [.int .i64 x.Num.A, .int .i64 x.Num.B, .int .i64 x.Num.C, .int .i64 x.Num.D, .int .i64 x.Exp], 5⟩, ⟨some ⟨b1, 0, none⟩, 83, [.int .i64 0, .int .i64 0, .int .i64 0, .int .i64 0, .int .i64 0], 5⟩, ⟨some ⟨b2, 0, none⟩, 83, [.int .i64 r_2.Num.A, .int .i64 r_2.Num.B, .int .i64 r_2.Num.C, .int .i64 r_2.Num.D, .int .i64 r_2.Exp], 5⟩] [] := hS5
  refine sq 5 rfl rfl (Y_assign (v := .bool r_3) rfl rfl) ?_
  refine rw_nil ?_
  refine cw_seq ?_
  refine cw_seq ?_
  refine cw_region ?_
  refine sq 11 rfl rfl (Y_move (v := .bool r_3) rfl rfl) ?_
  refine sq 12 rfl rfl (Y_not (p := r_3) rfl rfl) ?_
  refine rw_nil ?_
  refine cw_cond (b := (!r_3)) rfl (fun hb => ?_) (fun hb => ?_)
  · skip
    have hF1 := ct hF hb
    refine cw_seq ?_
    refine cw_region ?_
    refine sq 13 rfl rfl (Y_buildS (zs := [.int .i64 0, .int .i64 0, .int .i64 0, .int .i64 0, .int .i64 0]) (vs := []) (cs := [.int .i64 0, .int .i64 0, .int .i64 0, .int .i64 0, .int .i64 0]) k_pl_83 k_zero_83 rfl mpn rfl) ?_
    refine ss0 rfl rfl (Ys_store (i := 1) (s := 5) (B := some ⟨b1, 0, none⟩) (T' := 83) (v := .agg #[.int .i64 0, .int .i64 0, .int .i64 0, .int .i64 0, .int .i64 0]) (vs := [.int .i64 0, .int .i64 0, .int .i64 0, .int .i64 0, .int .i64 0]) (k := 0) (cs' := [.int .i64 0, .int .i64 0, .int .i64 0, .int .i64 0, .int .i64 0]) hS5 k_sz_83_5 rfl rfl rfl rfl rfl rfl rfl (Nat.le_of_ble_eq_true rfl) rfl rfl) ?_
    rintro _ w_5 ⟨rfl, hS6⟩
    have hS6 : ST w0 [] _ [⟨some ⟨b, 0, none⟩, 83, [.int .i64 x.Num.A, .int .i64 x.Num.B, .int .i64 x.Num.C, .int .i64 x.Num.D, .int .i64 x.Exp], 5⟩, ⟨some ⟨b1, 0, none⟩, 83, [.int .i64 0, .int .i64 0, .int .i64 0, .int .i64 0, .int .i64 0], 5⟩, ⟨some ⟨b2, 0, none⟩, 83, [.int .i64 r_2.Num.A, .int .i64 r_2.Num.B, .int .i64 r_2.Num.C, .int .i64 r_2.Num.D, .int .i64 r_2.Exp], 5⟩] [] := hS6
    refine sq 3 rfl rfl (Y_assign (v := .bool false) rfl rfl) ?_
    refine rw_nil ?_
    refine cw_ret ?_
    obtain ⟨rfl, rfl⟩ := pr2 (some_inj hF1)
    exact ret2 Try.results108 (v1 := .agg #[.int .i64 0, .int .i64 0, .int .i64 0, .int .i64 0, .int .i64 0]) (resAt_cellA (B := some ⟨b1, 0, none⟩) (i := 0) (cs := [.int .i64 0, .int .i64 0, .int .i64 0, .int .i64 0, .int .i64 0]) (vs := [.int .i64 0, .int .i64 0, .int .i64 0, .int .i64 0, .int .i64 0]) rfl k_ag_83 k_sz_83_5 (hS6.cf (i := 1) rfl) rfl rfl) (v2 := .bool false) (resAt_tmp rfl) ⟨rfl, (ST.subR (R' := []) (hS6.sel [] rfl rfl) (fun _ h => by cases h))⟩
  · skip
    have hF2 := cf' hF hb
    refine cw_skip ?_
    refine cw_seq ?_
    refine cw_region ?_
    refine sq 14 rfl rfl (Y_loadA (B := some ⟨b, 0, none⟩) (i := 0) (cs := [.int .i64 x.Num.A, .int .i64 x.Num.B, .int .i64 x.Num.C, .int .i64 x.Num.D, .int .i64 x.Exp]) (vs := [.int .i64 x.Num.A, .int .i64 x.Num.B, .int .i64 x.Num.C, .int .i64 x.Num.D, .int .i64 x.Exp]) k_ag_83 k_sz_83_5 rfl rfl (hS5.cf (i := 0) rfl) rfl rfl) ?_
    refine sq 15 rfl rfl (Y_loadA (B := some ⟨b2, 0, none⟩) (i := 0) (cs := [.int .i64 r_2.Num.A, .int .i64 r_2.Num.B, .int .i64 r_2.Num.C, .int .i64 r_2.Num.D, .int .i64 r_2.Exp]) (vs := [.int .i64 r_2.Num.A, .int .i64 r_2.Num.B, .int .i64 r_2.Num.C, .int .i64 r_2.Num.D, .int .i64 r_2.Exp]) k_ag_83 k_sz_83_5 rfl rfl (hS5.cf (i := 2) rfl) rfl rfl) ?_
    obtain ⟨⟨r_4, r_5⟩, hc1, hF2⟩ := bind_inv hF2
    refine sc 16 rfl rfl (Yc_func (g := 146) (vs := [.agg #[.int .i64 x.Num.A, .int .i64 x.Num.B, .int .i64 x.Num.C, .int .i64 x.Num.D, .int .i64 x.Exp], .agg #[.int .i64 r_2.Num.A, .int .i64 r_2.Num.B, .int .i64 r_2.Num.C, .int .i64 r_2.Num.D, .int .i64 r_2.Exp]]) k_call_146 rfl (mc rfl (mc rfl mn)) (c_impl_MulDyadic x r_2 _  (hS5.inn0 [] rfl) hc1)) ?_
    rintro _ w_6 ⟨rfl, hd1⟩
    have hS7 := hS5.out00 hd1
    have hS7 : ST w0 [] _ [⟨some ⟨b, 0, none⟩, 83, [.int .i64 x.Num.A, .int .i64 x.Num.B, .int .i64 x.Num.C, .int .i64 x.Num.D, .int .i64 x.Exp], 5⟩, ⟨some ⟨b1, 0, none⟩, 83, [.int .i64 0, .int .i64 0, .int .i64 0, .int .i64 0, .int .i64 0], 5⟩, ⟨some ⟨b2, 0, none⟩, 83, [.int .i64 r_2.Num.A, .int .i64 r_2.Num.B, .int .i64 r_2.Num.C, .int .i64 r_2.Num.D, .int .i64 r_2.Exp], 5⟩] [] := hS7
    refine sq 17 rfl rfl (Y_extract (v := .agg #[.int .i64 r_4.Num.A, .int .i64 r_4.Num.B, .int .i64 r_4.Num.C, .int .i64 r_4.Num.D, .int .i64 r_4.Exp]) rfl rfl rfl) ?_
    refine sq 18 rfl rfl (Y_extract (v := .bool r_5) rfl rfl rfl) ?_
    refine ss0 rfl rfl (Ys_store (i := 1) (s := 5) (B := some ⟨b1, 0, none⟩) (T' := 83) (v := .agg #[.int .i64 r_4.Num.A, .int .i64 r_4.Num.B, .int .i64 r_4.Num.C, .int .i64 r_4.Num.D, .int .i64 r_4.Exp]) (vs := [.int .i64 r_4.Num.A, .int .i64 r_4.Num.B, .int .i64 r_4.Num.C, .int .i64 r_4.Num.D, .int .i64 r_4.Exp]) (k := 0) (cs' := [.int .i64 r_4.Num.A, .int .i64 r_4.Num.B, .int .i64 r_4.Num.C, .int .i64 r_4.Num.D, .int .i64 r_4.Exp]) hS7 k_sz_83_5 rfl rfl rfl rfl rfl rfl rfl (Nat.le_of_ble_eq_true rfl) rfl rfl) ?_
    rintro _ w_7 ⟨rfl, hS8⟩
    have hS8 : ST w0 [] _ [⟨some ⟨b, 0, none⟩, 83, [.int .i64 x.Num.A, .int .i64 x.Num.B, .int .i64 x.Num.C, .int .i64 x.Num.D, .int .i64 x.Exp], 5⟩, ⟨some ⟨b1, 0, none⟩, 83, [.int .i64 r_4.Num.A, .int .i64 r_4.Num.B, .int .i64 r_4.Num.C, .int .i64 r_4.Num.D, .int .i64 r_4.Exp], 5⟩, ⟨some ⟨b2, 0, none⟩, 83, [.int .i64 r_2.Num.A, .int .i64 r_2.Num.B, .int .i64 r_2.Num.C, .int .i64 r_2.Num.D, .int .i64 r_2.Exp], 5⟩] [] := hS8
    refine sq 3 rfl rfl (Y_assign (v := .bool r_5) rfl rfl) ?_
    refine rw_nil ?_
    refine cw_ret ?_
    obtain ⟨rfl, rfl⟩ := pr2 (some_inj hF2)
    exact ret2 Try.results108 (v1 := .agg #[.int .i64 r_4.Num.A, .int .i64 r_4.Num.B, .int .i64 r_4.Num.C, .int .i64 r_4.Num.D, .int .i64 r_4.Exp]) (resAt_cellA (B := some ⟨b1, 0, none⟩) (i := 0) (cs := [.int .i64 r_4.Num.A, .int .i64 r_4.Num.B, .int .i64 r_4.Num.C, .int .i64 r_4.Num.D, .int .i64 r_4.Exp]) (vs := [.int .i64 r_4.Num.A, .int .i64 r_4.Num.B, .int .i64 r_4.Num.C, .int .i64 r_4.Num.D, .int .i64 r_4.Exp]) rfl k_ag_83 k_sz_83_5 (hS8.cf (i := 1) rfl) rfl rfl) (v2 := .bool r_5) (resAt_tmp rfl) ⟨rfl, (ST.subR (R' := []) (hS8.sel [] rfl rfl) (fun _ h => by cases h))⟩

theorem c_impl_QubitWeight (c : TCircuit) (start : Int) (q : Int) (B : Option Addr) (c1 n : Nat) (w0 : World) (hn : c.Gates.length = n) (hS : ST w0 [] w0 [] [⟨B, (c.Gates.flatMap enc_Gate)⟩]) {r_ : TDyadic} {r_1 : Bool} (hF : F_impl_QubitWeight c start q = some (r_, r_1)) :
    CV Try.prog 46 #[.agg #[.int .i64 c.Qubits, .slice B n c1], .int .i64 start, .int .i64 q] w0 (fun v w' => v = .tuple #[.agg #[.int .i64 r_.Num.A, .int .i64 r_.Num.B, .int .i64 r_.Num.C, .int .i64 r_.Num.D, .int .i64 r_.Exp], .bool r_1] ∧ ST w0 [] w' [] []) := by
  subst hn
  unfold F_impl_QubitWeight at hF
  refine cv_of_cw 70 Try.func46 rfl Try.ntmps46 rfl ?_
  refine cw_seq ?_
  refine cw_region ?_
  refine ss 3 rfl rfl (Ys_box (T := 57) (v := .agg #[.int .i64 c.Qubits, .slice B c.Gates.length c1]) (cs := [.int .i64 c.Qubits, .slice B c.Gates.length c1]) (m := 2) hS rfl rfl rfl rfl) ?_
  rintro _ w_ ⟨b, rfl, hS1⟩
  refine ss 6 rfl rfl (Ys_alloc (T := 83) (cs := [.int .i64 0, .int .i64 0, .int .i64 0, .int .i64 0, .int .i64 0]) (m := 5) hS1 k_zero_83 rfl rfl rfl) ?_
  rintro _ w_1 ⟨b1, rfl, hS2⟩
  have hS2 : ST w0 [] _ [⟨some ⟨b, 0, none⟩, 57, [.int .i64 c.Qubits, .slice B c.Gates.length c1], 2⟩, ⟨some ⟨b1, 0, none⟩, 83, [.int .i64 0, .int .i64 0, .int .i64 0, .int .i64 0, .int .i64 0], 5⟩] [⟨B, (c.Gates.flatMap enc_Gate)⟩] := hS2
  refine sq 7 rfl rfl (Y_assign (v := .bool false) rfl rfl) ?_
  refine rw_nil ?_
  refine cw_seq ?_
  refine cw_region ?_
  refine sq 18 rfl rfl (Y_loadA (B := some ⟨b, 0, none⟩) (i := 0) (cs := [.int .i64 c.Qubits, .slice B c.Gates.length c1]) (vs := [.int .i64 c.Qubits, .slice B c.Gates.length c1]) k_ag_57 k_sz_57_2 rfl rfl (hS2.cf (i := 0) rfl) rfl rfl) ?_
  refine sq 19 rfl rfl (Y_move (v := .int .i64 start) rfl rfl) ?_
  obtain ⟨⟨r_2, r_3⟩, hc, hF⟩ := bind_inv hF
  refine sc 20 rfl rfl (Yc_func (g := 106) (vs := [.agg #[.int .i64 c.Qubits, .slice B c.Gates.length c1], .int .i64 start]) k_call_106 rfl (mc rfl (mc rfl mn)) (c_impl_StateAfter c start B c1 c.Gates.length _ rfl (hS2.inn0 [(true, 0)] rfl) hc)) ?_
  rintro _ w_2 ⟨B1, c2, rfl, hd⟩
  have hS3 := hS2.out0 hd
  have hS3 : ST w0 [] _ [⟨some ⟨b, 0, none⟩, 57, [.int .i64 c.Qubits, .slice B c.Gates.length c1], 2⟩, ⟨some ⟨b1, 0, none⟩, 83, [.int .i64 0, .int .i64 0, .int .i64 0, .int .i64 0, .int .i64 0], 5⟩, ⟨B1, 83, (r_2.Cells.flatMap enc_Dyadic), c2 * 5⟩] [⟨B, (c.Gates.flatMap enc_Gate)⟩] := hS3
  refine sq 17 rfl rfl (Y_move (v := .tuple #[.agg #[.int .i64 r_2.Rows, .int .i64 r_2.Cols, .slice B1 r_2.Cells.length c2], .bool r_3]) rfl rfl) ?_
  refine sq 21 rfl rfl (Y_extract (v := .agg #[.int .i64 r_2.Rows, .int .i64 r_2.Cols, .slice B1 r_2.Cells.length c2]) rfl rfl rfl) ?_
  refine sq 22 rfl rfl (Y_extract (v := .bool r_3) rfl rfl rfl) ?_
  refine ss 8 rfl rfl (Ys_alloc (T := 26) (cs := [.int .i64 0, .int .i64 0, .slice none 0 0]) (m := 3) hS3 k_zero_26 rfl rfl rfl) ?_
  rintro _ w_3 ⟨b2, rfl, hS4⟩
  have hS4 : ST w0 [] _ [⟨some ⟨b, 0, none⟩, 57, [.int .i64 c.Qubits, .slice B c.Gates.length c1], 2⟩, ⟨some ⟨b1, 0, none⟩, 83, [.int .i64 0, .int .i64 0, .int .i64 0, .int .i64 0, .int .i64 0], 5⟩, ⟨B1, 83, (r_2.Cells.flatMap enc_Dyadic), c2 * 5⟩, ⟨some ⟨b2, 0, none⟩, 26, [.int .i64 0, .int .i64 0, .slice none 0 0], 3⟩] [⟨B, (c.Gates.flatMap enc_Gate)⟩] := hS4
  refine ss0 rfl rfl (Ys_store (i := 3) (s := 3) (B := some ⟨b2, 0, none⟩) (T' := 26) (v := .agg #[.int .i64 r_2.Rows, .int .i64 r_2.Cols, .slice B1 r_2.Cells.length c2]) (vs := [.int .i64 r_2.Rows, .int .i64 r_2.Cols, .slice B1 r_2.Cells.length c2]) (k := 0) (cs' := [.int .i64 r_2.Rows, .int .i64 r_2.Cols, .slice B1 r_2.Cells.length c2]) hS4 k_sz_26_3 rfl rfl rfl rfl rfl rfl rfl (Nat.le_of_ble_eq_true rfl) rfl rfl) ?_
  rintro _ w_4 ⟨rfl, hS5⟩
  have hS5 : ST w0 [] _ [⟨some ⟨b, 0, none⟩, 57, [.int .i64 c.Qubits, .slice B c.Gates.length c1], 2⟩, ⟨some ⟨b1, 0, none⟩, 83, [.int .i64 0, .int .i64 0, .int .i64 0, .int .i64 0, .int .i64 0], 5⟩, ⟨B1, 83, (r_2.Cells.flatMap enc_Dyadic), c2 * 5⟩, ⟨some ⟨b2, 0, none⟩, 26, [.int .i64 r_2.Rows, .int .i64 r_2.Cols, .slice B1 r_2.Cells.length c2], 3⟩] [⟨B, (c.Gates.flatMap enc_Gate)⟩] := hS5
  refine sq 9 rfl rfl (Y_assign (v := .bool r_3) rfl rfl) ?_
  refine rw_nil ?_
  refine cw_seq ?_
  refine cw_seq ?_
  refine cw_region ?_
  refine sq 23 rfl rfl (Y_move (v := .bool r_3) rfl rfl) ?_
  refine sq 24 rfl rfl (Y_not (p := r_3) rfl rfl) ?_
  refine sq 25 rfl rfl (Y_move (v := .bool (!r_3)) rfl rfl) ?_
  refine sgq 26 (B := (!(!r_3))) (v := .int .i64 q) rfl rfl (wt_f (gd_of (t := 25) (by kernel_rfl) rfl)) (fun hg => (Y_move (v := .int .i64 q) rfl rfl)) ?_
  refine sgq 27 (B := (!(!r_3))) (v := pt (some ⟨b, 0, none⟩) 0) rfl rfl (wt_f (gd_of (t := 25) (by kernel_rfl) rfl)) (fun hg1 => (Y_fieldAddr (B := some ⟨b, 0, none⟩) (i := 0) (s := 0) k_fd_57_0_0_3 k_sz_3_1 rfl rfl)) ?_
  refine sgq 28 (B := (!(!r_3))) (v := .int .i64 c.Qubits) rfl rfl (wt_f (gd_of (t := 25) (by kernel_rfl) rfl)) (fun hg2 => (Y_load1 (B := some ⟨b, 0, none⟩) (i := 0) (cs := [.int .i64 c.Qubits, .slice B c.Gates.length c1]) (v := .int .i64 c.Qubits) k_sc_3 rfl (gv_of (B := (!(!r_3))) (v := pt (some ⟨b, 0, none⟩) 0) hg2) (hS5.cf (i := 0) rfl) rfl)) ?_
  refine sgq 29 (B := (!(!r_3))) (v := .int .i64 (IntKind.i64.wrap (c.Qubits - 1))) rfl rfl (wt_f (gd_of (t := 25) (by kernel_rfl) rfl)) (fun hg3 => (Y_sub (k := .i64) (a := c.Qubits) (b := 1) rfl (gv_of (B := (!(!r_3))) (v := .int .i64 c.Qubits) hg3) rfl)) ?_
  obtain ⟨r_4, hc1, hF⟩ := bind_inv hF
  refine sgc 30 (B := (!(!r_3))) (v := .bool r_4) (F := hS5.fn) rfl rfl (wt_f (gd_of (t := 25) (by kernel_rfl) rfl)) hS5 (fun hg4 => (Yc_func (g := 107) (vs := [.int .i64 q, .int .i64 0, .int .i64 (IntKind.i64.wrap (c.Qubits - 1))]) k_call_107 rfl (mc (gv_of (B := (!(!r_3))) (v := .int .i64 q) hg4) (mc rfl (mc (gv_of (B := (!(!r_3))) (v := .int .i64 (IntKind.i64.wrap (c.Qubits - 1))) hg4) mn))) (CV.mono (c_impl_within q 0 (IntKind.i64.wrap (c.Qubits - 1)) _  (hS5.inn0 [] rfl) (gb_inv hc1 hg4)) (by rintro _ _ ⟨rfl, h⟩; exact ⟨rfl, hS5.out00 h⟩)))) ?_
  rintro w_5 hS6
  have hS6 : ST _ _ w_5 _ _ := hS6
  refine sgq 31 (B := (!(!r_3))) (v := .bool (!r_4)) rfl rfl (wt_f (gd_of (t := 25) (by kernel_rfl) rfl)) (fun hg5 => (Y_not (p := r_4) rfl (gv_of (B := (!(!r_3))) (v := .bool r_4) hg5))) ?_
  refine sq 32 rfl rfl (Y_or (b := (!r_3)) (z := (!r_4)) rfl rfl rfl rfl) ?_
  refine rw_nil ?_
  refine cw_cond (b := ((!r_3) || (!r_4))) rfl (fun hb => ?_) (fun hb => ?_)
  · skip
    have hF1 := ct hF hb
    refine cw_seq ?_
    refine cw_region ?_
    refine sq 33 rfl rfl (Y_buildS (zs := [.int .i64 0, .int .i64 0, .int .i64 0, .int .i64 0, .int .i64 0]) (vs := []) (cs := [.int .i64 0, .int .i64 0, .int .i64 0, .int .i64 0, .int .i64 0]) k_pl_83 k_zero_83 rfl mpn rfl) ?_
    refine ss0 rfl rfl (Ys_store (i := 1) (s := 5) (B := some ⟨b1, 0, none⟩) (T' := 83) (v := .agg #[.int .i64 0, .int .i64 0, .int .i64 0, .int .i64 0, .int .i64 0]) (vs := [.int .i64 0, .int .i64 0, .int .i64 0, .int .i64 0, .int .i64 0]) (k := 0) (cs' := [.int .i64 0, .int .i64 0, .int .i64 0, .int .i64 0, .int .i64 0]) hS6 k_sz_83_5 rfl rfl rfl rfl rfl rfl rfl (Nat.le_of_ble_eq_true rfl) rfl rfl) ?_
    rintro _ w_6 ⟨rfl, hS7⟩
    have hS7 : ST w0 [] _ [⟨some ⟨b, 0, none⟩, 57, [.int .i64 c.Qubits, .slice B c.Gates.length c1], 2⟩, ⟨some ⟨b1, 0, none⟩, 83, [.int .i64 0, .int .i64 0, .int .i64 0, .int .i64 0, .int .i64 0], 5⟩, ⟨B1, 83, (r_2.Cells.flatMap enc_Dyadic), c2 * 5⟩, ⟨some ⟨b2, 0, none⟩, 26, [.int .i64 r_2.Rows, .int .i64 r_2.Cols, .slice B1 r_2.Cells.length c2], 3⟩] [⟨B, (c.Gates.flatMap enc_Gate)⟩] := hS7
    refine sq 7 rfl rfl (Y_assign (v := .bool false) rfl rfl) ?_
    refine rw_nil ?_
    refine cw_ret ?_
    obtain ⟨rfl, rfl⟩ := pr2 (some_inj hF1)
    exact ret2 Try.results46 (v1 := .agg #[.int .i64 0, .int .i64 0, .int .i64 0, .int .i64 0, .int .i64 0]) (resAt_cellA (B := some ⟨b1, 0, none⟩) (i := 0) (cs := [.int .i64 0, .int .i64 0, .int .i64 0, .int .i64 0, .int .i64 0]) (vs := [.int .i64 0, .int .i64 0, .int .i64 0, .int .i64 0, .int .i64 0]) rfl k_ag_83 k_sz_83_5 (hS7.cf (i := 1) rfl) rfl rfl) (v2 := .bool false) (resAt_tmp rfl) ⟨rfl, (ST.subR (R' := []) (hS7.sel [] rfl rfl) (fun _ h => by cases h))⟩
  · skip
    have hF2 := cf' hF hb
    refine cw_skip ?_
    refine cw_seq ?_
    refine cw_region ?_
    refine sq 34 rfl rfl (Y_buildS (zs := [.int .i64 0, .int .i64 0, .int .i64 0, .int .i64 0, .int .i64 0]) (vs := []) (cs := [.int .i64 0, .int .i64 0, .int .i64 0, .int .i64 0, .int .i64 0]) k_pl_83 k_zero_83 rfl mpn rfl) ?_
    refine ss 10 rfl rfl (Ys_alloc (T := 83) (cs := [.int .i64 0, .int .i64 0, .int .i64 0, .int .i64 0, .int .i64 0]) (m := 5) hS6 k_zero_83 rfl rfl rfl) ?_
    rintro _ w_7 ⟨b3, rfl, hS8⟩
    have hS8 : ST w0 [] _ [⟨some ⟨b, 0, none⟩, 57, [.int .i64 c.Qubits, .slice B c.Gates.length c1], 2⟩, ⟨some ⟨b1, 0, none⟩, 83, [.int .i64 0, .int .i64 0, .int .i64 0, .int .i64 0, .int .i64 0], 5⟩, ⟨B1, 83, (r_2.Cells.flatMap enc_Dyadic), c2 * 5⟩, ⟨some ⟨b2, 0, none⟩, 26, [.int .i64 r_2.Rows, .int .i64 r_2.Cols, .slice B1 r_2.Cells.length c2], 3⟩, ⟨some ⟨b3, 0, none⟩, 83, [.int .i64 0, .int .i64 0, .int .i64 0, .int .i64 0, .int .i64 0], 5⟩] [⟨B, (c.Gates.flatMap enc_Gate)⟩] := hS8
    refine ss0 rfl rfl (Ys_store (i := 4) (s := 5) (B := some ⟨b3, 0, none⟩) (T' := 83) (v := .agg #[.int .i64 0, .int .i64 0, .int .i64 0, .int .i64 0, .int .i64 0]) (vs := [.int .i64 0, .int .i64 0, .int .i64 0, .int .i64 0, .int .i64 0]) (k := 0) (cs' := [.int .i64 0, .int .i64 0, .int .i64 0, .int .i64 0, .int .i64 0]) hS8 k_sz_83_5 rfl rfl rfl rfl rfl rfl rfl (Nat.le_of_ble_eq_true rfl) rfl rfl) ?_
    rintro _ w_8 ⟨rfl, hS9⟩
    have hS9 : ST w0 [] _ [⟨some ⟨b, 0, none⟩, 57, [.int .i64 c.Qubits, .slice B c.Gates.length c1], 2⟩, ⟨some ⟨b1, 0, none⟩, 83, [.int .i64 0, .int .i64 0, .int .i64 0, .int .i64 0, .int .i64 0], 5⟩, ⟨B1, 83, (r_2.Cells.flatMap enc_Dyadic), c2 * 5⟩, ⟨some ⟨b2, 0, none⟩, 26, [.int .i64 r_2.Rows, .int .i64 r_2.Cols, .slice B1 r_2.Cells.length c2], 3⟩, ⟨some ⟨b3, 0, none⟩, 83, [.int .i64 0, .int .i64 0, .int .i64 0, .int .i64 0, .int .i64 0], 5⟩] [⟨B, (c.Gates.flatMap enc_Gate)⟩] := hS9
    refine rw_nil ?_
    refine cw_seq ?_
    refine cw_seq ?_
    refine cw_region ?_
    refine sq 35 rfl rfl (Y_fieldAddr (B := some ⟨b2, 0, none⟩) (i := 0) (s := 0) k_fd_26_2_2_24 k_sz_24_1 rfl rfl) ?_
    refine sq 36 rfl rfl (Y_load1 (B := some ⟨b2, 0, none⟩) (i := 2) (cs := [.int .i64 r_2.Rows, .int .i64 r_2.Cols, .slice B1 r_2.Cells.length c2]) (v := .slice B1 r_2.Cells.length c2) k_sc_24 rfl rfl (hS9.cf (i := 3) rfl) rfl) ?_
    refine sq 37 rfl rfl (Y_len (B := B1) (m := r_2.Cells.length) (c := c2) k_sl_24_83 rfl rfl) ?_
    refine sq 38 rfl rfl (Y_move (v := .int .i64 0) rfl rfl) ?_
    refine rw_nil ?_
    obtain ⟨hN, hF2⟩ := chk_inv hF2
    obtain ⟨z, hz, hF3⟩ := bind_inv hF2
    refine cw_block ?_
    refine cw_loop (fun k f w => ∃ (i : Nat) (A : Int) (B2 : Int) (C : Int) (D : Int) (Exp : Int), FF f [(2, .int .i64 q), (3, pt (some ⟨b, 0, none⟩) 0), (6, pt (some ⟨b1, 0, none⟩) 0), (10, pt (some ⟨b3, 0, none⟩) 0), (36, .slice B1 r_2.Cells.length c2), (37, .int .i64 (r_2.Cells.length : Int)), (38, .int .i64 (i : Int))] ∧ ST w0 [] w [⟨some ⟨b, 0, none⟩, 57, [.int .i64 c.Qubits, .slice B c.Gates.length c1], 2⟩, ⟨some ⟨b1, 0, none⟩, 83, [.int .i64 0, .int .i64 0, .int .i64 0, .int .i64 0, .int .i64 0], 5⟩, ⟨some ⟨b3, 0, none⟩, 83, [.int .i64 A, .int .i64 B2, .int .i64 C, .int .i64 D, .int .i64 Exp], 5⟩, ⟨B1, 83, (r_2.Cells.flatMap enc_Dyadic), c2 * 5⟩] [⟨B, (c.Gates.flatMap enc_Gate)⟩] ∧ i + k = r_2.Cells.length ∧ forX (F_impl_QubitWeight_l1 r_2 c q) k i (A, B2, C, D, Exp) = some z) r_2.Cells.length ⟨0, 0, 0, 0, 0, 0, (FF.cons rfl (FF.cons rfl (FF.cons rfl (FF.cons rfl (FF.cons rfl (FF.cons rfl (FF.cons rfl FF.nil))))))), (hS9.sel [0, 1, 4, 2] rfl rfl), Nat.zero_add _, hz⟩ ?_
    rintro k_ f w ⟨i, A, B2, C, D, Exp, hf, hS10, hik, hL⟩
    refine cw_seq ?_
    refine cw_region ?_
    refine sq 39 rfl rfl (Y_lt (k := .i64) (a := (i : Int)) (b := (r_2.Cells.length : Int)) rfl (hf.get 38 6 rfl) (hf.get 37 5 rfl)) ?_
    refine rw_nil ?_
    refine cw_seq ?_
    refine cw_cond (b := (decide ((i : Int) < (r_2.Cells.length : Int)))) rfl (fun hlt => ?_) (fun hlt => ?_)
    · skip
      have hlt1 : i < r_2.Cells.length := by have h := of_decide_eq_true hlt; omega
      obtain ⟨k_1, rfl⟩ : ∃ k2, k_ = k2 + 1 := ⟨k_ - 1, by omega⟩
      obtain ⟨y, hb1, hL1⟩ := forX_go hL
      unfold F_impl_QubitWeight_l1 at hb1
      refine cw_skip ?_
      refine cw_seq ?_
      obtain ⟨z1, hz1, hF4⟩ := bind_inv hb1
      refine cw_mid (fun f w => ∃ (A1 : Int) (B3 : Int) (C1 : Int) (D1 : Int) (Exp1 : Int), .inl (A1, B3, C1, D1, Exp1) = z1 ∧ FF f [(2, .int .i64 q), (3, pt (some ⟨b, 0, none⟩) 0), (6, pt (some ⟨b1, 0, none⟩) 0), (10, pt (some ⟨b3, 0, none⟩) 0), (36, .slice B1 r_2.Cells.length c2), (37, .int .i64 (r_2.Cells.length : Int)), (38, .int .i64 (i : Int))] ∧ ST w0 [] w [⟨some ⟨b, 0, none⟩, 57, [.int .i64 c.Qubits, .slice B c.Gates.length c1], 2⟩, ⟨some ⟨b1, 0, none⟩, 83, [.int .i64 0, .int .i64 0, .int .i64 0, .int .i64 0, .int .i64 0], 5⟩, ⟨some ⟨b3, 0, none⟩, 83, [.int .i64 A1, .int .i64 B3, .int .i64 C1, .int .i64 D1, .int .i64 Exp1], 5⟩, ⟨B1, 83, (r_2.Cells.flatMap enc_Dyadic), c2 * 5⟩] [⟨B, (c.Gates.flatMap enc_Gate)⟩]) ?_ ?_
      · skip
        refine cw_block ?_
        refine cw_seq ?_
        refine cw_region ?_
        refine sq 40 rfl rfl (Y_move (v := .int .i64 (i : Int)) rfl (hf.get 38 6 rfl)) ?_
        obtain ⟨x, hx, hz1⟩ := bind_inv hz1
        refine sq 41 rfl rfl (Y_index (B := B1) (m := r_2.Cells.length) (c := c2) (k := .i64) (i := (i : Int)) k_sl_24_83 k_sz_83_5 rfl (hf.get 36 4 rfl) (hf.get 38 6 rfl) (gi_isSome enc_Dyadic_len rfl (hS10.cf (i := 3) rfl) hx) (getI_nn hx) (getI_ltI hx rfl)) ?_
        refine sq 42 rfl rfl (Y_loadA (B := B1) (i := (i : Int).toNat * 5) (cs := (r_2.Cells.flatMap enc_Dyadic)) (vs := [.int .i64 x.Num.A, .int .i64 x.Num.B, .int .i64 x.Num.C, .int .i64 x.Num.D, .int .i64 x.Exp]) k_ag_83 k_sz_83_5 rfl rfl (hS10.cf (i := 3) rfl) (enc_Dyadic_len x) (gi_seg enc_Dyadic_len hx)) ?_
        refine ss 12 rfl rfl (Ys_alloc (T := 83) (cs := [.int .i64 0, .int .i64 0, .int .i64 0, .int .i64 0, .int .i64 0]) (m := 5) hS10 k_zero_83 rfl rfl rfl) ?_
        rintro _ w_9 ⟨b4, rfl, hS12⟩
        have hS12 : ST w0 [] _ [⟨some ⟨b, 0, none⟩, 57, [.int .i64 c.Qubits, .slice B c.Gates.length c1], 2⟩, ⟨some ⟨b1, 0, none⟩, 83, [.int .i64 0, .int .i64 0, .int .i64 0, .int .i64 0, .int .i64 0], 5⟩, ⟨some ⟨b3, 0, none⟩, 83, [.int .i64 A, .int .i64 B2, .int .i64 C, .int .i64 D, .int .i64 Exp], 5⟩, ⟨B1, 83, (r_2.Cells.flatMap enc_Dyadic), c2 * 5⟩, ⟨some ⟨b4, 0, none⟩, 83, [.int .i64 0, .int .i64 0, .int .i64 0, .int .i64 0, .int .i64 0], 5⟩] [⟨B, (c.Gates.flatMap enc_Gate)⟩] := hS12
        refine sq 11 rfl rfl (Y_assign (v := .int .i64 (i : Int)) rfl rfl) ?_
        refine ss0 rfl rfl (Ys_store (i := 4) (s := 5) (B := some ⟨b4, 0, none⟩) (T' := 83) (v := .agg #[.int .i64 x.Num.A, .int .i64 x.Num.B, .int .i64 x.Num.C, .int .i64 x.Num.D, .int .i64 x.Exp]) (vs := [.int .i64 x.Num.A, .int .i64 x.Num.B, .int .i64 x.Num.C, .int .i64 x.Num.D, .int .i64 x.Exp]) (k := 0) (cs' := [.int .i64 x.Num.A, .int .i64 x.Num.B, .int .i64 x.Num.C, .int .i64 x.Num.D, .int .i64 x.Exp]) hS12 k_sz_83_5 rfl rfl rfl rfl rfl rfl rfl (Nat.le_of_ble_eq_true rfl) rfl rfl) ?_
        rintro _ w_10 ⟨rfl, hS13⟩
        have hS13 : ST w0 [] _ [⟨some ⟨b, 0, none⟩, 57, [.int .i64 c.Qubits, .slice B c.Gates.length c1], 2⟩, ⟨some ⟨b1, 0, none⟩, 83, [.int .i64 0, .int .i64 0, .int .i64 0, .int .i64 0, .int .i64 0], 5⟩, ⟨some ⟨b3, 0, none⟩, 83, [.int .i64 A, .int .i64 B2, .int .i64 C, .int .i64 D, .int .i64 Exp], 5⟩, ⟨B1, 83, (r_2.Cells.flatMap enc_Dyadic), c2 * 5⟩, ⟨some ⟨b4, 0, none⟩, 83, [.int .i64 x.Num.A, .int .i64 x.Num.B, .int .i64 x.Num.C, .int .i64 x.Num.D, .int .i64 x.Exp], 5⟩] [⟨B, (c.Gates.flatMap enc_Gate)⟩] := hS13
        refine rw_nil ?_
        refine cw_seq ?_
        refine cw_seq ?_
        refine cw_region ?_
        refine sq 43 rfl rfl (Y_fieldAddr (B := some ⟨b, 0, none⟩) (i := 0) (s := 0) k_fd_57_0_0_3 k_sz_3_1 rfl (hf.get 3 1 rfl)) ?_
        refine sq 44 rfl rfl (Y_load1 (B := some ⟨b, 0, none⟩) (i := 0) (cs := [.int .i64 c.Qubits, .slice B c.Gates.length c1]) (v := .int .i64 c.Qubits) k_sc_3 rfl rfl (hS13.cf (i := 0) rfl) rfl) ?_
        refine sq 45 rfl rfl (Y_move (v := .int .i64 (i : Int)) rfl rfl) ?_
        refine sq 46 rfl rfl (Y_move (v := .int .i64 q) rfl (hf.get 2 0 rfl)) ?_
        obtain ⟨r_5, hc2, hz1⟩ := bind_inv hz1
        refine sc 47 rfl rfl (Yc_func (g := 115) (vs := [.int .i64 c.Qubits, .int .i64 (i : Int), .int .i64 q]) k_call_115 rfl (mc rfl (mc rfl (mc rfl mn))) (c_impl_bitOf c.Qubits (i : Int) q _  (hS13.inn0 [] rfl) hc2)) ?_
        rintro _ w_11 ⟨rfl, hd1⟩
        have hS14 := hS13.out00 hd1
        have hS14 : ST w0 [] _ [⟨some ⟨b, 0, none⟩, 57, [.int .i64 c.Qubits, .slice B c.Gates.length c1], 2⟩, ⟨some ⟨b1, 0, none⟩, 83, [.int .i64 0, .int .i64 0, .int .i64 0, .int .i64 0, .int .i64 0], 5⟩, ⟨some ⟨b3, 0, none⟩, 83, [.int .i64 A, .int .i64 B2, .int .i64 C, .int .i64 D, .int .i64 Exp], 5⟩, ⟨B1, 83, (r_2.Cells.flatMap enc_Dyadic), c2 * 5⟩, ⟨some ⟨b4, 0, none⟩, 83, [.int .i64 x.Num.A, .int .i64 x.Num.B, .int .i64 x.Num.C, .int .i64 x.Num.D, .int .i64 x.Exp], 5⟩] [⟨B, (c.Gates.flatMap enc_Gate)⟩] := hS14
        refine sq 48 rfl rfl (Y_eq (k := .i64) (a := r_5) (b := 0) rfl rfl rfl) ?_
        refine rw_nil ?_
        refine cw_cond (b := (r_5 == 0)) rfl (fun hb2 => ?_) (fun hb2 => ?_)
        · skip
          have hF5 := ct hz1 hb2
          refine cw_exit rfl ?_
          exact ⟨A, B2, C, D, Exp, (some_inj hF5), (FF.cons (hf.get 2 0 rfl) (FF.cons (hf.get 3 1 rfl) (FF.cons (hf.get 6 2 rfl) (FF.cons (hf.get 10 3 rfl) (FF.cons (hf.get 36 4 rfl) (FF.cons (hf.get 37 5 rfl) (FF.cons (hf.get 38 6 rfl) FF.nil))))))), (hS14.sel [0, 1, 2, 3] rfl rfl)⟩
        · skip
          have hF6 := cf' hz1 hb2
          refine cw_skip ?_
          refine cw_seq ?_
          refine cw_region ?_
          refine sq 50 rfl rfl (Y_loadA (B := some ⟨b4, 0, none⟩) (i := 0) (cs := [.int .i64 x.Num.A, .int .i64 x.Num.B, .int .i64 x.Num.C, .int .i64 x.Num.D, .int .i64 x.Exp]) (vs := [.int .i64 x.Num.A, .int .i64 x.Num.B, .int .i64 x.Num.C, .int .i64 x.Num.D, .int .i64 x.Exp]) k_ag_83 k_sz_83_5 rfl rfl (hS14.cf (i := 4) rfl) rfl rfl) ?_
          obtain ⟨⟨r_6, r_7⟩, hc3, hF6⟩ := bind_inv hF6
          refine sc 51 rfl rfl (Yc_func (g := 108) (vs := [.agg #[.int .i64 x.Num.A, .int .i64 x.Num.B, .int .i64 x.Num.C, .int .i64 x.Num.D, .int .i64 x.Exp]]) k_call_108 rfl (mc rfl mn) (c_impl_NormSquare x _  (hS14.inn0 [] rfl) hc3)) ?_
          rintro _ w_12 ⟨rfl, hd2⟩
          have hS15 := hS14.out00 hd2
          have hS15 : ST w0 [] _ [⟨some ⟨b, 0, none⟩, 57, [.int .i64 c.Qubits, .slice B c.Gates.length c1], 2⟩, ⟨some ⟨b1, 0, none⟩, 83, [.int .i64 0, .int .i64 0, .int .i64 0, .int .i64 0, .int .i64 0], 5⟩, ⟨some ⟨b3, 0, none⟩, 83, [.int .i64 A, .int .i64 B2, .int .i64 C, .int .i64 D, .int .i64 Exp], 5⟩, ⟨B1, 83, (r_2.Cells.flatMap enc_Dyadic), c2 * 5⟩, ⟨some ⟨b4, 0, none⟩, 83, [.int .i64 x.Num.A, .int .i64 x.Num.B, .int .i64 x.Num.C, .int .i64 x.Num.D, .int .i64 x.Exp], 5⟩] [⟨B, (c.Gates.flatMap enc_Gate)⟩] := hS15
          refine sq 49 rfl rfl (Y_move (v := .tuple #[.agg #[.int .i64 r_6.Num.A, .int .i64 r_6.Num.B, .int .i64 r_6.Num.C, .int .i64 r_6.Num.D, .int .i64 r_6.Exp], .bool r_7]) rfl rfl) ?_
          refine sq 52 rfl rfl (Y_extract (v := .agg #[.int .i64 r_6.Num.A, .int .i64 r_6.Num.B, .int .i64 r_6.Num.C, .int .i64 r_6.Num.D, .int .i64 r_6.Exp]) rfl rfl rfl) ?_
          refine sq 53 rfl rfl (Y_extract (v := .bool r_7) rfl rfl rfl) ?_
          refine ss 13 rfl rfl (Ys_alloc (T := 83) (cs := [.int .i64 0, .int .i64 0, .int .i64 0, .int .i64 0, .int .i64 0]) (m := 5) hS15 k_zero_83 rfl rfl rfl) ?_
          rintro _ w_13 ⟨b5, rfl, hS16⟩
          have hS16 : ST w0 [] _ [⟨some ⟨b, 0, none⟩, 57, [.int .i64 c.Qubits, .slice B c.Gates.length c1], 2⟩, ⟨some ⟨b1, 0, none⟩, 83, [.int .i64 0, .int .i64 0, .int .i64 0, .int .i64 0, .int .i64 0], 5⟩, ⟨some ⟨b3, 0, none⟩, 83, [.int .i64 A, .int .i64 B2, .int .i64 C, .int .i64 D, .int .i64 Exp], 5⟩, ⟨B1, 83, (r_2.Cells.flatMap enc_Dyadic), c2 * 5⟩, ⟨some ⟨b4, 0, none⟩, 83, [.int .i64 x.Num.A, .int .i64 x.Num.B, .int .i64 x.Num.C, .int .i64 x.Num.D, .int .i64 x.Exp], 5⟩, ⟨some ⟨b5, 0, none⟩, 83, [.int .i64 0, .int .i64 0, .int .i64 0, .int .i64 0, .int .i64 0], 5⟩] [⟨B, (c.Gates.flatMap enc_Gate)⟩] := hS16
          refine ss0 rfl rfl (Ys_store (i := 5) (s := 5) (B := some ⟨b5, 0, none⟩) (T' := 83) (v := .agg #[.int .i64 r_6.Num.A, .int .i64 r_6.Num.B, .int .i64 r_6.Num.C, .int .i64 r_6.Num.D, .int .i64 r_6.Exp]) (vs := [.int .i64 r_6.Num.A, .int .i64 r_6.Num.B, .int .i64 r_6.Num.C, .int .i64 r_6.Num.D, .int .i64 r_6.Exp]) (k := 0) (cs' := [.int .i64 r_6.Num.A, .int .i64 r_6.Num.B, .int .i64 r_6.Num.C, .int .i64 r_6.Num.D, .int .i64 r_6.Exp]) hS16 k_sz_83_5 rfl rfl rfl rfl rfl rfl rfl (Nat.le_of_ble_eq_true rfl) rfl rfl) ?_
          rintro _ w_14 ⟨rfl, hS17⟩
          have hS17 : ST w0 [] _ [⟨some ⟨b, 0, none⟩, 57, [.int .i64 c.Qubits, .slice B c.Gates.length c1], 2⟩, ⟨some ⟨b1, 0, none⟩, 83, [.int .i64 0, .int .i64 0, .int .i64 0, .int .i64 0, .int .i64 0], 5⟩, ⟨some ⟨b3, 0, none⟩, 83, [.int .i64 A, .int .i64 B2, .int .i64 C, .int .i64 D, .int .i64 Exp], 5⟩, ⟨B1, 83, (r_2.Cells.flatMap enc_Dyadic), c2 * 5⟩, ⟨some ⟨b4, 0, none⟩, 83, [.int .i64 x.Num.A, .int .i64 x.Num.B, .int .i64 x.Num.C, .int .i64 x.Num.D, .int .i64 x.Exp], 5⟩, ⟨some ⟨b5, 0, none⟩, 83, [.int .i64 r_6.Num.A, .int .i64 r_6.Num.B, .int .i64 r_6.Num.C, .int .i64 r_6.Num.D, .int .i64 r_6.Exp], 5⟩] [⟨B, (c.Gates.flatMap enc_Gate)⟩] := hS17
          refine sq 14 rfl rfl (Y_assign (v := .bool r_7) rfl rfl) ?_
          refine rw_nil ?_
          refine cw_seq ?_
          refine cw_region ?_
          refine sq 55 rfl rfl (Y_loadA (B := some ⟨b3, 0, none⟩) (i := 0) (cs := [.int .i64 A, .int .i64 B2, .int .i64 C, .int .i64 D, .int .i64 Exp]) (vs := [.int .i64 A, .int .i64 B2, .int .i64 C, .int .i64 D, .int .i64 Exp]) k_ag_83 k_sz_83_5 rfl (hf.get 10 3 rfl) (hS17.cf (i := 2) rfl) rfl rfl) ?_
          refine sq 56 rfl rfl (Y_loadA (B := some ⟨b5, 0, none⟩) (i := 0) (cs := [.int .i64 r_6.Num.A, .int .i64 r_6.Num.B, .int .i64 r_6.Num.C, .int .i64 r_6.Num.D, .int .i64 r_6.Exp]) (vs := [.int .i64 r_6.Num.A, .int .i64 r_6.Num.B, .int .i64 r_6.Num.C, .int .i64 r_6.Num.D, .int .i64 r_6.Exp]) k_ag_83 k_sz_83_5 rfl rfl (hS17.cf (i := 5) rfl) rfl rfl) ?_
          obtain ⟨⟨r_8, r_9⟩, hc4, hF6⟩ := bind_inv hF6
          refine sc 57 rfl rfl (Yc_func (g := 116) (vs := [.agg #[.int .i64 A, .int .i64 B2, .int .i64 C, .int .i64 D, .int .i64 Exp], .agg #[.int .i64 r_6.Num.A, .int .i64 r_6.Num.B, .int .i64 r_6.Num.C, .int .i64 r_6.Num.D, .int .i64 r_6.Exp]]) k_call_116 rfl (mc rfl (mc rfl mn)) (c_impl_AddDyadic (TDyadic.mk (TRing.mk A B2 C D) Exp) r_6 _  (hS17.inn0 [] rfl) hc4)) ?_
          rintro _ w_15 ⟨rfl, hd3⟩
          have hS18 := hS17.out00 hd3
          have hS18 : ST w0 [] _ [⟨some ⟨b, 0, none⟩, 57, [.int .i64 c.Qubits, .slice B c.Gates.length c1], 2⟩, ⟨some ⟨b1, 0, none⟩, 83, [.int .i64 0, .int .i64 0, .int .i64 0, .int .i64 0, .int .i64 0], 5⟩, ⟨some ⟨b3, 0, none⟩, 83, [.int .i64 A, .int .i64 B2, .int .i64 C, .int .i64 D, .int .i64 Exp], 5⟩, ⟨B1, 83, (r_2.Cells.flatMap enc_Dyadic), c2 * 5⟩, ⟨some ⟨b4, 0, none⟩, 83, [.int .i64 x.Num.A, .int .i64 x.Num.B, .int .i64 x.Num.C, .int .i64 x.Num.D, .int .i64 x.Exp], 5⟩, ⟨some ⟨b5, 0, none⟩, 83, [.int .i64 r_6.Num.A, .int .i64 r_6.Num.B, .int .i64 r_6.Num.C, .int .i64 r_6.Num.D, .int .i64 r_6.Exp], 5⟩] [⟨B, (c.Gates.flatMap enc_Gate)⟩] := hS18
          refine sq 54 rfl rfl (Y_move (v := .tuple #[.agg #[.int .i64 r_8.Num.A, .int .i64 r_8.Num.B, .int .i64 r_8.Num.C, .int .i64 r_8.Num.D, .int .i64 r_8.Exp], .bool r_9]) rfl rfl) ?_
          refine sq 58 rfl rfl (Y_extract (v := .agg #[.int .i64 r_8.Num.A, .int .i64 r_8.Num.B, .int .i64 r_8.Num.C, .int .i64 r_8.Num.D, .int .i64 r_8.Exp]) rfl rfl rfl) ?_
          refine sq 59 rfl rfl (Y_extract (v := .bool r_9) rfl rfl rfl) ?_
          refine ss 15 rfl rfl (Ys_alloc (T := 83) (cs := [.int .i64 0, .int .i64 0, .int .i64 0, .int .i64 0, .int .i64 0]) (m := 5) hS18 k_zero_83 rfl rfl rfl) ?_
          rintro _ w_16 ⟨b6, rfl, hS19⟩
          have hS19 : ST w0 [] _ [⟨some ⟨b, 0, none⟩, 57, [.int .i64 c.Qubits, .slice B c.Gates.length c1], 2⟩, ⟨some ⟨b1, 0, none⟩, 83, [.int .i64 0, .int .i64 0, .int .i64 0, .int .i64 0, .int .i64 0], 5⟩, ⟨some ⟨b3, 0, none⟩, 83, [.int .i64 A, .int .i64 B2, .int .i64 C, .int .i64 D, .int .i64 Exp], 5⟩, ⟨B1, 83, (r_2.Cells.flatMap enc_Dyadic), c2 * 5⟩, ⟨some ⟨b4, 0, none⟩, 83, [.int .i64 x.Num.A, .int .i64 x.Num.B, .int .i64 x.Num.C, .int .i64 x.Num.D, .int .i64 x.Exp], 5⟩, ⟨some ⟨b5, 0, none⟩, 83, [.int .i64 r_6.Num.A, .int .i64 r_6.Num.B, .int .i64 r_6.Num.C, .int .i64 r_6.Num.D, .int .i64 r_6.Exp], 5⟩, ⟨some ⟨b6, 0, none⟩, 83, [.int .i64 0, .int .i64 0, .int .i64 0, .int .i64 0, .int .i64 0], 5⟩] [⟨B, (c.Gates.flatMap enc_Gate)⟩] := hS19
          refine ss0 rfl rfl (Ys_store (i := 6) (s := 5) (B := some ⟨b6, 0, none⟩) (T' := 83) (v := .agg #[.int .i64 r_8.Num.A, .int .i64 r_8.Num.B, .int .i64 r_8.Num.C, .int .i64 r_8.Num.D, .int .i64 r_8.Exp]) (vs := [.int .i64 r_8.Num.A, .int .i64 r_8.Num.B, .int .i64 r_8.Num.C, .int .i64 r_8.Num.D, .int .i64 r_8.Exp]) (k := 0) (cs' := [.int .i64 r_8.Num.A, .int .i64 r_8.Num.B, .int .i64 r_8.Num.C, .int .i64 r_8.Num.D, .int .i64 r_8.Exp]) hS19 k_sz_83_5 rfl rfl rfl rfl rfl rfl rfl (Nat.le_of_ble_eq_true rfl) rfl rfl) ?_
          rintro _ w_17 ⟨rfl, hS20⟩
          have hS20 : ST w0 [] _ [⟨some ⟨b, 0, none⟩, 57, [.int .i64 c.Qubits, .slice B c.Gates.length c1], 2⟩, ⟨some ⟨b1, 0, none⟩, 83, [.int .i64 0, .int .i64 0, .int .i64 0, .int .i64 0, .int .i64 0], 5⟩, ⟨some ⟨b3, 0, none⟩, 83, [.int .i64 A, .int .i64 B2, .int .i64 C, .int .i64 D, .int .i64 Exp], 5⟩, ⟨B1, 83, (r_2.Cells.flatMap enc_Dyadic), c2 * 5⟩, ⟨some ⟨b4, 0, none⟩, 83, [.int .i64 x.Num.A, .int .i64 x.Num.B, .int .i64 x.Num.C, .int .i64 x.Num.D, .int .i64 x.Exp], 5⟩, ⟨some ⟨b5, 0, none⟩, 83, [.int .i64 r_6.Num.A, .int .i64 r_6.Num.B, .int .i64 r_6.Num.C, .int .i64 r_6.Num.D, .int .i64 r_6.Exp], 5⟩, ⟨some ⟨b6, 0, none⟩, 83, [.int .i64 r_8.Num.A, .int .i64 r_8.Num.B, .int .i64 r_8.Num.C, .int .i64 r_8.Num.D, .int .i64 r_8.Exp], 5⟩] [⟨B, (c.Gates.flatMap enc_Gate)⟩] := hS20
          refine sq 16 rfl rfl (Y_assign (v := .bool r_9) rfl rfl) ?_
          refine rw_nil ?_
          refine cw_seq ?_
          refine cw_seq ?_
          refine cw_region ?_
          refine sq 60 rfl rfl (Y_move (v := .bool r_7) rfl rfl) ?_
          refine sq 61 rfl rfl (Y_not (p := r_7) rfl rfl) ?_
          refine sq 62 rfl rfl (Y_move (v := .bool (!r_7)) rfl rfl) ?_
          refine sgq 63 (B := (!(!r_7))) (v := .bool r_9) rfl rfl (wt_f (gd_of (t := 62) (by kernel_rfl) rfl)) (fun hg6 => (Y_move (v := .bool r_9) rfl rfl)) ?_
          refine sgq 64 (B := (!(!r_7))) (v := .bool (!r_9)) rfl rfl (wt_f (gd_of (t := 62) (by kernel_rfl) rfl)) (fun hg7 => (Y_not (p := r_9) rfl (gv_of (B := (!(!r_7))) (v := .bool r_9) hg7))) ?_
          refine sq 65 rfl rfl (Y_or (b := (!r_7)) (z := (!r_9)) rfl rfl rfl rfl) ?_
          refine rw_nil ?_
          refine cw_cond (b := ((!r_7) || (!r_9))) rfl (fun hb3 => ?_) (fun hb3 => ?_)
          · skip
            have hF7 := ct hF6 hb3
            refine cw_seq ?_
            refine cw_region ?_
            refine sq 66 rfl rfl (Y_buildS (zs := [.int .i64 0, .int .i64 0, .int .i64 0, .int .i64 0, .int .i64 0]) (vs := []) (cs := [.int .i64 0, .int .i64 0, .int .i64 0, .int .i64 0, .int .i64 0]) k_pl_83 k_zero_83 rfl mpn rfl) ?_
            refine ss0 rfl rfl (Ys_store (i := 1) (s := 5) (B := some ⟨b1, 0, none⟩) (T' := 83) (v := .agg #[.int .i64 0, .int .i64 0, .int .i64 0, .int .i64 0, .int .i64 0]) (vs := [.int .i64 0, .int .i64 0, .int .i64 0, .int .i64 0, .int .i64 0]) (k := 0) (cs' := [.int .i64 0, .int .i64 0, .int .i64 0, .int .i64 0, .int .i64 0]) hS20 k_sz_83_5 rfl (hf.get 6 2 rfl) rfl rfl rfl rfl rfl (Nat.le_of_ble_eq_true rfl) rfl rfl) ?_
            rintro _ w_18 ⟨rfl, hS21⟩
            have hS21 : ST w0 [] _ [⟨some ⟨b, 0, none⟩, 57, [.int .i64 c.Qubits, .slice B c.Gates.length c1], 2⟩, ⟨some ⟨b1, 0, none⟩, 83, [.int .i64 0, .int .i64 0, .int .i64 0, .int .i64 0, .int .i64 0], 5⟩, ⟨some ⟨b3, 0, none⟩, 83, [.int .i64 A, .int .i64 B2, .int .i64 C, .int .i64 D, .int .i64 Exp], 5⟩, ⟨B1, 83, (r_2.Cells.flatMap enc_Dyadic), c2 * 5⟩, ⟨some ⟨b4, 0, none⟩, 83, [.int .i64 x.Num.A, .int .i64 x.Num.B, .int .i64 x.Num.C, .int .i64 x.Num.D, .int .i64 x.Exp], 5⟩, ⟨some ⟨b5, 0, none⟩, 83, [.int .i64 r_6.Num.A, .int .i64 r_6.Num.B, .int .i64 r_6.Num.C, .int .i64 r_6.Num.D, .int .i64 r_6.Exp], 5⟩, ⟨some ⟨b6, 0, none⟩, 83, [.int .i64 r_8.Num.A, .int .i64 r_8.Num.B, .int .i64 r_8.Num.C, .int .i64 r_8.Num.D, .int .i64 r_8.Exp], 5⟩] [⟨B, (c.Gates.flatMap enc_Gate)⟩] := hS21
            refine sq 7 rfl rfl (Y_assign (v := .bool false) rfl rfl) ?_
            refine rw_nil ?_
            refine cw_ret ?_
            obtain rfl := some_inj hF7
            obtain rfl := some_inj hF4
            obtain rfl := some_inj hL1
            obtain ⟨rfl, rfl⟩ := pr2 (some_inj hF3)
            exact ret2 Try.results46 (v1 := .agg #[.int .i64 0, .int .i64 0, .int .i64 0, .int .i64 0, .int .i64 0]) (resAt_cellA (B := some ⟨b1, 0, none⟩) (i := 0) (cs := [.int .i64 0, .int .i64 0, .int .i64 0, .int .i64 0, .int .i64 0]) (vs := [.int .i64 0, .int .i64 0, .int .i64 0, .int .i64 0, .int .i64 0]) (hf.get 6 2 rfl) k_ag_83 k_sz_83_5 (hS21.cf (i := 1) rfl) rfl rfl) (v2 := .bool false) (resAt_tmp rfl) ⟨rfl, (ST.subR (R' := []) (hS21.sel [] rfl rfl) (fun _ h => by cases h))⟩
          · skip
            have hF8 := cf' hF6 hb3
            refine cw_skip ?_
            refine cw_region ?_
            refine sq 67 rfl rfl (Y_loadA (B := some ⟨b6, 0, none⟩) (i := 0) (cs := [.int .i64 r_8.Num.A, .int .i64 r_8.Num.B, .int .i64 r_8.Num.C, .int .i64 r_8.Num.D, .int .i64 r_8.Exp]) (vs := [.int .i64 r_8.Num.A, .int .i64 r_8.Num.B, .int .i64 r_8.Num.C, .int .i64 r_8.Num.D, .int .i64 r_8.Exp]) k_ag_83 k_sz_83_5 rfl rfl (hS20.cf (i := 6) rfl) rfl rfl) ?_
            refine ss0 rfl rfl (Ys_store (i := 2) (s := 5) (B := some ⟨b3, 0, none⟩) (T' := 83) (v := .agg #[.int .i64 r_8.Num.A, .int .i64 r_8.Num.B, .int .i64 r_8.Num.C, .int .i64 r_8.Num.D, .int .i64 r_8.Exp]) (vs := [.int .i64 r_8.Num.A, .int .i64 r_8.Num.B, .int .i64 r_8.Num.C, .int .i64 r_8.Num.D, .int .i64 r_8.Exp]) (k := 0) (cs' := [.int .i64 r_8.Num.A, .int .i64 r_8.Num.B, .int .i64 r_8.Num.C, .int .i64 r_8.Num.D, .int .i64 r_8.Exp]) hS20 k_sz_83_5 rfl (hf.get 10 3 rfl) rfl rfl rfl rfl rfl (Nat.le_of_ble_eq_true rfl) rfl rfl) ?_
            rintro _ w_19 ⟨rfl, hS22⟩
            have hS22 : ST w0 [] _ [⟨some ⟨b, 0, none⟩, 57, [.int .i64 c.Qubits, .slice B c.Gates.length c1], 2⟩, ⟨some ⟨b1, 0, none⟩, 83, [.int .i64 0, .int .i64 0, .int .i64 0, .int .i64 0, .int .i64 0], 5⟩, ⟨some ⟨b3, 0, none⟩, 83, [.int .i64 r_8.Num.A, .int .i64 r_8.Num.B, .int .i64 r_8.Num.C, .int .i64 r_8.Num.D, .int .i64 r_8.Exp], 5⟩, ⟨B1, 83, (r_2.Cells.flatMap enc_Dyadic), c2 * 5⟩, ⟨some ⟨b4, 0, none⟩, 83, [.int .i64 x.Num.A, .int .i64 x.Num.B, .int .i64 x.Num.C, .int .i64 x.Num.D, .int .i64 x.Exp], 5⟩, ⟨some ⟨b5, 0, none⟩, 83, [.int .i64 r_6.Num.A, .int .i64 r_6.Num.B, .int .i64 r_6.Num.C, .int .i64 r_6.Num.D, .int .i64 r_6.Exp], 5⟩, ⟨some ⟨b6, 0, none⟩, 83, [.int .i64 r_8.Num.A, .int .i64 r_8.Num.B, .int .i64 r_8.Num.C, .int .i64 r_8.Num.D, .int .i64 r_8.Exp], 5⟩] [⟨B, (c.Gates.flatMap enc_Gate)⟩] := hS22
            refine rw_nil ?_
            exact ⟨r_8.Num.A, r_8.Num.B, r_8.Num.C, r_8.Num.D, r_8.Exp, (some_inj hF8), (FF.cons (hf.get 2 0 rfl) (FF.cons (hf.get 3 1 rfl) (FF.cons (hf.get 6 2 rfl) (FF.cons (hf.get 10 3 rfl) (FF.cons (hf.get 36 4 rfl) (FF.cons (hf.get 37 5 rfl) (FF.cons (hf.get 38 6 rfl) FF.nil))))))), (hS22.sel [0, 1, 2, 3] rfl rfl)⟩
      rintro f w ⟨A1, B3, C1, D1, Exp1, rfl, hf1, hS11⟩
      refine cw_region ?_
      refine sq 68 rfl rfl (Y_add (k := .i64) (a := (i : Int)) (b := 1) rfl (hf1.get 38 6 rfl) rfl) ?_
      refine sq 38 rfl rfl (Y_move (v := .int .i64 (IntKind.i64.wrap ((i : Int) + 1))) rfl rfl) ?_
      refine rw_nil ?_
      obtain rfl := some_inj hF4
      exact ⟨k_1, Nat.lt_succ_self _, i + 1, A1, B3, C1, D1, Exp1, (FF.cons (hf1.get 2 0 rfl) (FF.cons (hf1.get 3 1 rfl) (FF.cons (hf1.get 6 2 rfl) (FF.cons (hf1.get 10 3 rfl) (FF.cons (hf1.get 36 4 rfl) (FF.cons (hf1.get 37 5 rfl) (FF.cons (congrArg (Value.int .i64) (wr_succ hlt1 hN)) FF.nil))))))), (hS11.sel [0, 1, 2, 3] rfl rfl), (by omega), hL1⟩
    · skip
      obtain rfl : k_ = 0 := by have h := of_decide_eq_false hlt; omega
      refine cw_exit rfl ?_
      obtain rfl := some_inj hL
      refine cw_seq ?_
      refine cw_region ?_
      refine sq 69 rfl rfl (Y_loadA (B := some ⟨b3, 0, none⟩) (i := 0) (cs := [.int .i64 A, .int .i64 B2, .int .i64 C, .int .i64 D, .int .i64 Exp]) (vs := [.int .i64 A, .int .i64 B2, .int .i64 C, .int .i64 D, .int .i64 Exp]) k_ag_83 k_sz_83_5 rfl (hf.get 10 3 rfl) (hS10.cf (i := 2) rfl) rfl rfl) ?_
      refine ss0 rfl rfl (Ys_store (i := 1) (s := 5) (B := some ⟨b1, 0, none⟩) (T' := 83) (v := .agg #[.int .i64 A, .int .i64 B2, .int .i64 C, .int .i64 D, .int .i64 Exp]) (vs := [.int .i64 A, .int .i64 B2, .int .i64 C, .int .i64 D, .int .i64 Exp]) (k := 0) (cs' := [.int .i64 A, .int .i64 B2, .int .i64 C, .int .i64 D, .int .i64 Exp]) hS10 k_sz_83_5 rfl (hf.get 6 2 rfl) rfl rfl rfl rfl rfl (Nat.le_of_ble_eq_true rfl) rfl rfl) ?_
      rintro _ w_20 ⟨rfl, hS23⟩
      have hS23 : ST w0 [] _ [⟨some ⟨b, 0, none⟩, 57, [.int .i64 c.Qubits, .slice B c.Gates.length c1], 2⟩, ⟨some ⟨b1, 0, none⟩, 83, [.int .i64 A, .int .i64 B2, .int .i64 C, .int .i64 D, .int .i64 Exp], 5⟩, ⟨some ⟨b3, 0, none⟩, 83, [.int .i64 A, .int .i64 B2, .int .i64 C, .int .i64 D, .int .i64 Exp], 5⟩, ⟨B1, 83, (r_2.Cells.flatMap enc_Dyadic), c2 * 5⟩] [⟨B, (c.Gates.flatMap enc_Gate)⟩] := hS23
      refine sq 7 rfl rfl (Y_assign (v := .bool true) rfl rfl) ?_
      refine rw_nil ?_
      refine cw_ret ?_
      obtain ⟨rfl, rfl⟩ := pr2 (some_inj hF3)
      exact ret2 Try.results46 (v1 := .agg #[.int .i64 A, .int .i64 B2, .int .i64 C, .int .i64 D, .int .i64 Exp]) (resAt_cellA (B := some ⟨b1, 0, none⟩) (i := 0) (cs := [.int .i64 A, .int .i64 B2, .int .i64 C, .int .i64 D, .int .i64 Exp]) (vs := [.int .i64 A, .int .i64 B2, .int .i64 C, .int .i64 D, .int .i64 Exp]) (hf.get 6 2 rfl) k_ag_83 k_sz_83_5 (hS23.cf (i := 1) rfl) rfl rfl) (v2 := .bool true) (resAt_tmp rfl) ⟨rfl, (ST.subR (R' := []) (hS23.sel [] rfl rfl) (fun _ h => by cases h))⟩

theorem c_laws_FnExactQubitWeight (aC : TCircuit) (aStart : Int) (aQ : Int) (B : Option Addr) (c n : Nat) (w0 : World) (hn : aC.Gates.length = n) (hS : ST w0 [] w0 [] [⟨B, (aC.Gates.flatMap enc_Gate)⟩]) {r_ : Bool} (hF : F_laws_FnExactQubitWeight aC aStart aQ = some r_) :
    CV Try.prog 9 #[.agg #[.int .i64 aC.Qubits, .slice B n c], .int .i64 aStart, .int .i64 aQ] w0 (fun v w' => v = .bool r_ ∧ ST w0 [] w' [] []) := by
  subst hn
  unfold F_laws_FnExactQubitWeight at hF
  refine cv_of_cw 49 Try.func9 rfl Try.ntmps9 rfl ?_
  refine cw_seq ?_
  refine cw_region ?_
  refine ss 3 rfl rfl (Ys_box (T := 41) (v := .agg #[.int .i64 aC.Qubits, .slice B aC.Gates.length c]) (cs := [.int .i64 aC.Qubits, .slice B aC.Gates.length c]) (m := 2) hS rfl rfl rfl rfl) ?_
  rintro _ w_ ⟨b, rfl, hS1⟩
  refine sq 6 rfl rfl (Y_assign (v := .bool false) rfl rfl) ?_
  refine rw_nil ?_
  refine cw_seq ?_
  refine cw_region ?_
  refine sq 7 rfl rfl (Y_assign (v := .int .i64 1048576) rfl rfl) ?_
  refine rw_nil ?_
  refine cw_seq ?_
  refine cw_region ?_
  refine sq 13 rfl rfl (Y_loadA (B := some ⟨b, 0, none⟩) (i := 0) (cs := [.int .i64 aC.Qubits, .slice B aC.Gates.length c]) (vs := [.int .i64 aC.Qubits, .slice B aC.Gates.length c]) k_ag_41 k_sz_41_2 rfl rfl (hS1.cf (i := 0) rfl) rfl rfl) ?_
  refine sq 14 rfl rfl (Y_move (v := .int .i64 1048576) rfl rfl) ?_
  obtain ⟨r_1, hc, hF⟩ := bind_inv hF
  refine sc 15 rfl rfl (Yc_func (g := 24) (vs := [.agg #[.int .i64 aC.Qubits, .slice B aC.Gates.length c], .int .i64 1048576]) k_call_24 rfl (mc rfl (mc rfl mn)) (c_laws_szCircuit aC 1048576 B c aC.Gates.length _ rfl (hS1.inn0 [(true, 0)] rfl) hc)) ?_
  rintro _ w_1 ⟨rfl, hd⟩
  have hS2 := hS1.out00 hd
  refine sq 7 rfl rfl (Y_assign (v := .int .i64 r_1) rfl rfl) ?_
  refine rw_nil ?_
  refine cw_seq ?_
  refine cw_seq ?_
  refine cw_region ?_
  refine sq 16 rfl rfl (Y_move (v := .int .i64 r_1) rfl rfl) ?_
  refine sq 17 rfl rfl (Y_lt (k := .i64) (a := r_1) (b := 0) rfl rfl rfl) ?_
  refine rw_nil ?_
  refine cw_cond (b := (decide (r_1 < 0))) rfl (fun hb => ?_) (fun hb => ?_)
  · skip
    have hF1 := ct hF hb
    refine cw_seq ?_
    refine cw_region ?_
    refine sq 6 rfl rfl (Y_assign (v := .bool true) rfl rfl) ?_
    refine rw_nil ?_
    refine cw_ret ?_
    obtain rfl := some_inj hF1
    exact ret1 Try.results9 (v1 := .bool true) (resAt_tmp rfl) ⟨rfl, (ST.subR (R' := []) (hS2.sel [] rfl rfl) (fun _ h => by cases h))⟩
  · skip
    have hF2 := cf' hF hb
    refine cw_skip ?_
    refine cw_seq ?_
    refine cw_region ?_
    refine sq 19 rfl rfl (Y_loadA (B := some ⟨b, 0, none⟩) (i := 0) (cs := [.int .i64 aC.Qubits, .slice B aC.Gates.length c]) (vs := [.int .i64 aC.Qubits, .slice B aC.Gates.length c]) k_ag_41 k_sz_41_2 rfl rfl (hS2.cf (i := 0) rfl) rfl rfl) ?_
    obtain ⟨r_2, hc1, hF2⟩ := bind_inv hF2
    refine sc 20 rfl rfl (Yc_func (g := 28) (vs := [.agg #[.int .i64 aC.Qubits, .slice B aC.Gates.length c]]) k_call_28 rfl (mc rfl mn) (c_laws_toCircuit aC B c aC.Gates.length _ rfl (hS2.inn0 [(true, 0)] rfl) hc1)) ?_
    rintro _ w_2 ⟨B1, c1, rfl, hd1⟩
    have hS3 := hS2.out0 hd1
    have hS3 : ST w0 [] _ [⟨some ⟨b, 0, none⟩, 41, [.int .i64 aC.Qubits, .slice B aC.Gates.length c], 2⟩, ⟨B1, 171, (r_2.Gates.flatMap enc_Gate), c1 * 3⟩] [⟨B, (aC.Gates.flatMap enc_Gate)⟩] := hS3
    refine sq 21 rfl rfl (Y_move (v := .int .i64 aStart) rfl rfl) ?_
    refine sq 22 rfl rfl (Y_move (v := .int .i64 aQ) rfl rfl) ?_
    obtain ⟨⟨r_3, r_4⟩, hc2, hF2⟩ := bind_inv hF2
    refine sc 23 rfl rfl (Yc_func (g := 45) (vs := [.agg #[.int .i64 r_2.Qubits, .slice B1 r_2.Gates.length c1], .int .i64 aStart, .int .i64 aQ]) k_call_45 rfl (mc rfl (mc rfl (mc rfl mn))) (c_spec_QubitWeight r_2 aStart aQ B1 c1 r_2.Gates.length _ rfl (hS3.inn0 [(false, 1)] rfl) hc2)) ?_
    rintro _ w_3 ⟨rfl, hd2⟩
    have hS4 := hS3.out00 hd2
    have hS4 : ST w0 [] _ [⟨some ⟨b, 0, none⟩, 41, [.int .i64 aC.Qubits, .slice B aC.Gates.length c], 2⟩, ⟨B1, 171, (r_2.Gates.flatMap enc_Gate), c1 * 3⟩] [⟨B, (aC.Gates.flatMap enc_Gate)⟩] := hS4
    refine sq 18 rfl rfl (Y_move (v := .tuple #[.agg #[.int .i64 r_3.Num.A, .int .i64 r_3.Num.B, .int .i64 r_3.Num.C, .int .i64 r_3.Num.D, .int .i64 r_3.Exp], .bool r_4]) rfl rfl) ?_
    refine sq 24 rfl rfl (Y_extract (v := .agg #[.int .i64 r_3.Num.A, .int .i64 r_3.Num.B, .int .i64 r_3.Num.C, .int .i64 r_3.Num.D, .int .i64 r_3.Exp]) rfl rfl rfl) ?_
    refine sq 25 rfl rfl (Y_extract (v := .bool r_4) rfl rfl rfl) ?_
    refine ss 8 rfl rfl (Ys_alloc (T := 83) (cs := [.int .i64 0, .int .i64 0, .int .i64 0, .int .i64 0, .int .i64 0]) (m := 5) hS4 k_zero_83 rfl rfl rfl) ?_
    rintro _ w_4 ⟨b1, rfl, hS5⟩
    have hS5 : ST w0 [] _ [⟨some ⟨b, 0, none⟩, 41, [.int .i64 aC.Qubits, .slice B aC.Gates.length c], 2⟩, ⟨B1, 171, (r_2.Gates.flatMap enc_Gate), c1 * 3⟩, ⟨some ⟨b1, 0, none⟩, 83, [.int .i64 0, .int .i64 0, .int .i64 0, .int .i64 0, .int .i64 0], 5⟩] [⟨B, (aC.Gates.flatMap enc_Gate)⟩] := hS5
    refine ss0 rfl rfl (Ys_store (i := 2) (s := 5) (B := some ⟨b1, 0, none⟩) (T' := 83) (v := .agg #[.int .i64 r_3.Num.A, .int .i64 r_3.Num.B, .int .i64 r_3.Num.C, .int .i64 r_3.Num.D, .int .i64 r_3.Exp]) (vs := [.int .i64 r_3.Num.A, .int .i64 r_3.Num.B, .int .i64 r_3.Num.C, .int .i64 r_3.Num.D, .int .i64 r_3.Exp]) (k := 0) (cs' := [.int .i64 r_3.Num.A, .int .i64 r_3.Num.B, .int .i64 r_3.Num.C, .int .i64 r_3.Num.D, .int .i64 r_3.Exp]) hS5 k_sz_83_5 rfl rfl rfl rfl rfl rfl rfl (Nat.le_of_ble_eq_true rfl) rfl rfl) ?_
    rintro _ w_5 ⟨rfl, hS6⟩
    have hS6 : ST w0 [] _ [⟨some ⟨b, 0, none⟩, 41, [.int .i64 aC.Qubits, .slice B aC.Gates.length c], 2⟩, ⟨B1, 171, (r_2.Gates.flatMap enc_Gate), c1 * 3⟩, ⟨some ⟨b1, 0, none⟩, 83, [.int .i64 r_3.Num.A, .int .i64 r_3.Num.B, .int .i64 r_3.Num.C, .int .i64 r_3.Num.D, .int .i64 r_3.Exp], 5⟩] [⟨B, (aC.Gates.flatMap enc_Gate)⟩] := hS6
    refine sq 9 rfl rfl (Y_assign (v := .bool r_4) rfl rfl) ?_
    refine rw_nil ?_
    refine cw_seq ?_
    refine cw_region ?_
    refine sq 26 rfl rfl (Y_loadA (B := some ⟨b, 0, none⟩) (i := 0) (cs := [.int .i64 aC.Qubits, .slice B aC.Gates.length c]) (vs := [.int .i64 aC.Qubits, .slice B aC.Gates.length c]) k_ag_41 k_sz_41_2 rfl rfl (hS6.cf (i := 0) rfl) rfl rfl) ?_
    obtain ⟨r_5, hc3, hF2⟩ := bind_inv hF2
    refine sc 27 rfl rfl (Yc_func (g := 28) (vs := [.agg #[.int .i64 aC.Qubits, .slice B aC.Gates.length c]]) k_call_28 rfl (mc rfl mn) (c_laws_toCircuit aC B c aC.Gates.length _ rfl (hS6.inn0 [(true, 0)] rfl) hc3)) ?_
    rintro _ w_6 ⟨B2, c2, rfl, hd3⟩
    have hS7 := hS6.out0 hd3
    have hS7 : ST w0 [] _ [⟨some ⟨b, 0, none⟩, 41, [.int .i64 aC.Qubits, .slice B aC.Gates.length c], 2⟩, ⟨B1, 171, (r_2.Gates.flatMap enc_Gate), c1 * 3⟩, ⟨some ⟨b1, 0, none⟩, 83, [.int .i64 r_3.Num.A, .int .i64 r_3.Num.B, .int .i64 r_3.Num.C, .int .i64 r_3.Num.D, .int .i64 r_3.Exp], 5⟩, ⟨B2, 171, (r_5.Gates.flatMap enc_Gate), c2 * 3⟩] [⟨B, (aC.Gates.flatMap enc_Gate)⟩] := hS7
    refine ss 10 rfl rfl (Ys_alloc (T := 57) (cs := [.int .i64 0, .slice none 0 0]) (m := 2) hS7 k_zero_57 rfl rfl rfl) ?_
    rintro _ w_7 ⟨b2, rfl, hS8⟩
    have hS8 : ST w0 [] _ [⟨some ⟨b, 0, none⟩, 41, [.int .i64 aC.Qubits, .slice B aC.Gates.length c], 2⟩, ⟨B1, 171, (r_2.Gates.flatMap enc_Gate), c1 * 3⟩, ⟨some ⟨b1, 0, none⟩, 83, [.int .i64 r_3.Num.A, .int .i64 r_3.Num.B, .int .i64 r_3.Num.C, .int .i64 r_3.Num.D, .int .i64 r_3.Exp], 5⟩, ⟨B2, 171, (r_5.Gates.flatMap enc_Gate), c2 * 3⟩, ⟨some ⟨b2, 0, none⟩, 57, [.int .i64 0, .slice none 0 0], 2⟩] [⟨B, (aC.Gates.flatMap enc_Gate)⟩] := hS8
    refine ss0 rfl rfl (Ys_store (i := 4) (s := 2) (B := some ⟨b2, 0, none⟩) (T' := 57) (v := .agg #[.int .i64 r_5.Qubits, .slice B2 r_5.Gates.length c2]) (vs := [.int .i64 r_5.Qubits, .slice B2 r_5.Gates.length c2]) (k := 0) (cs' := [.int .i64 r_5.Qubits, .slice B2 r_5.Gates.length c2]) hS8 k_sz_57_2 rfl rfl rfl rfl rfl rfl rfl (Nat.le_of_ble_eq_true rfl) rfl rfl) ?_
    rintro _ w_8 ⟨rfl, hS9⟩
    have hS9 : ST w0 [] _ [⟨some ⟨b, 0, none⟩, 41, [.int .i64 aC.Qubits, .slice B aC.Gates.length c], 2⟩, ⟨B1, 171, (r_2.Gates.flatMap enc_Gate), c1 * 3⟩, ⟨some ⟨b1, 0, none⟩, 83, [.int .i64 r_3.Num.A, .int .i64 r_3.Num.B, .int .i64 r_3.Num.C, .int .i64 r_3.Num.D, .int .i64 r_3.Exp], 5⟩, ⟨B2, 171, (r_5.Gates.flatMap enc_Gate), c2 * 3⟩, ⟨some ⟨b2, 0, none⟩, 57, [.int .i64 r_5.Qubits, .slice B2 r_5.Gates.length c2], 2⟩] [⟨B, (aC.Gates.flatMap enc_Gate)⟩] := hS9
    refine rw_nil ?_
    refine cw_seq ?_
    refine cw_region ?_
    refine sq 29 rfl rfl (Y_loadA (B := some ⟨b2, 0, none⟩) (i := 0) (cs := [.int .i64 r_5.Qubits, .slice B2 r_5.Gates.length c2]) (vs := [.int .i64 r_5.Qubits, .slice B2 r_5.Gates.length c2]) k_ag_57 k_sz_57_2 rfl rfl (hS9.cf (i := 4) rfl) rfl rfl) ?_
    refine sq 30 rfl rfl (Y_move (v := .int .i64 aStart) rfl rfl) ?_
    refine sq 31 rfl rfl (Y_move (v := .int .i64 aQ) rfl rfl) ?_
    obtain ⟨⟨r_6, r_7⟩, hc4, hF2⟩ := bind_inv hF2
    refine sc 32 rfl rfl (Yc_func (g := 46) (vs := [.agg #[.int .i64 r_5.Qubits, .slice B2 r_5.Gates.length c2], .int .i64 aStart, .int .i64 aQ]) k_call_46 rfl (mc rfl (mc rfl (mc rfl mn))) (c_impl_QubitWeight r_5 aStart aQ B2 c2 r_5.Gates.length _ rfl (hS9.inn0 [(false, 3)] rfl) hc4)) ?_
    rintro _ w_9 ⟨rfl, hd4⟩
    have hS10 := hS9.out00 hd4
    have hS10 : ST w0 [] _ [⟨some ⟨b, 0, none⟩, 41, [.int .i64 aC.Qubits, .slice B aC.Gates.length c], 2⟩, ⟨B1, 171, (r_2.Gates.flatMap enc_Gate), c1 * 3⟩, ⟨some ⟨b1, 0, none⟩, 83, [.int .i64 r_3.Num.A, .int .i64 r_3.Num.B, .int .i64 r_3.Num.C, .int .i64 r_3.Num.D, .int .i64 r_3.Exp], 5⟩, ⟨B2, 171, (r_5.Gates.flatMap enc_Gate), c2 * 3⟩, ⟨some ⟨b2, 0, none⟩, 57, [.int .i64 r_5.Qubits, .slice B2 r_5.Gates.length c2], 2⟩] [⟨B, (aC.Gates.flatMap enc_Gate)⟩] := hS10
    refine sq 28 rfl rfl (Y_move (v := .tuple #[.agg #[.int .i64 r_6.Num.A, .int .i64 r_6.Num.B, .int .i64 r_6.Num.C, .int .i64 r_6.Num.D, .int .i64 r_6.Exp], .bool r_7]) rfl rfl) ?_
    refine sq 33 rfl rfl (Y_extract (v := .agg #[.int .i64 r_6.Num.A, .int .i64 r_6.Num.B, .int .i64 r_6.Num.C, .int .i64 r_6.Num.D, .int .i64 r_6.Exp]) rfl rfl rfl) ?_
    refine sq 34 rfl rfl (Y_extract (v := .bool r_7) rfl rfl rfl) ?_
    refine ss 11 rfl rfl (Ys_alloc (T := 83) (cs := [.int .i64 0, .int .i64 0, .int .i64 0, .int .i64 0, .int .i64 0]) (m := 5) hS10 k_zero_83 rfl rfl rfl) ?_
    rintro _ w_10 ⟨b3, rfl, hS11⟩
    have hS11 : ST w0 [] _ [⟨some ⟨b, 0, none⟩, 41, [.int .i64 aC.Qubits, .slice B aC.Gates.length c], 2⟩, ⟨B1, 171, (r_2.Gates.flatMap enc_Gate), c1 * 3⟩, ⟨some ⟨b1, 0, none⟩, 83, [.int .i64 r_3.Num.A, .int .i64 r_3.Num.B, .int .i64 r_3.Num.C, .int .i64 r_3.Num.D, .int .i64 r_3.Exp], 5⟩, ⟨B2, 171, (r_5.Gates.flatMap enc_Gate), c2 * 3⟩, ⟨some ⟨b2, 0, none⟩, 57, [.int .i64 r_5.Qubits, .slice B2 r_5.Gates.length c2], 2⟩, ⟨some ⟨b3, 0, none⟩, 83, [.int .i64 0, .int .i64 0, .int .i64 0, .int .i64 0, .int .i64 0], 5⟩] [⟨B, (aC.Gates.flatMap enc_Gate)⟩] := hS11
    refine ss0 rfl rfl (Ys_store (i := 5) (s := 5) (B := some ⟨b3, 0, none⟩) (T' := 83) (v := .agg #[.int .i64 r_6.Num.A, .int .i64 r_6.Num.B, .int .i64 r_6.Num.C, .int .i64 r_6.Num.D, .int .i64 r_6.Exp]) (vs := [.int .i64 r_6.Num.A, .int .i64 r_6.Num.B, .int .i64 r_6.Num.C, .int .i64 r_6.Num.D, .int .i64 r_6.Exp]) (k := 0) (cs' := [.int .i64 r_6.Num.A, .int .i64 r_6.Num.B, .int .i64 r_6.Num.C, .int .i64 r_6.Num.D, .int .i64 r_6.Exp]) hS11 k_sz_83_5 rfl rfl rfl rfl rfl rfl rfl (Nat.le_of_ble_eq_true rfl) rfl rfl) ?_
    rintro _ w_11 ⟨rfl, hS12⟩
    have hS12 : ST w0 [] _ [⟨some ⟨b, 0, none⟩, 41, [.int .i64 aC.Qubits, .slice B aC.Gates.length c], 2⟩, ⟨B1, 171, (r_2.Gates.flatMap enc_Gate), c1 * 3⟩, ⟨some ⟨b1, 0, none⟩, 83, [.int .i64 r_3.Num.A, .int .i64 r_3.Num.B, .int .i64 r_3.Num.C, .int .i64 r_3.Num.D, .int .i64 r_3.Exp], 5⟩, ⟨B2, 171, (r_5.Gates.flatMap enc_Gate), c2 * 3⟩, ⟨some ⟨b2, 0, none⟩, 57, [.int .i64 r_5.Qubits, .slice B2 r_5.Gates.length c2], 2⟩, ⟨some ⟨b3, 0, none⟩, 83, [.int .i64 r_6.Num.A, .int .i64 r_6.Num.B, .int .i64 r_6.Num.C, .int .i64 r_6.Num.D, .int .i64 r_6.Exp], 5⟩] [⟨B, (aC.Gates.flatMap enc_Gate)⟩] := hS12
    refine sq 12 rfl rfl (Y_assign (v := .bool r_7) rfl rfl) ?_
    refine rw_nil ?_
    refine cw_seq ?_
    refine cw_seq ?_
    refine cw_region ?_
    refine sq 35 rfl rfl (Y_loadA (B := some ⟨b3, 0, none⟩) (i := 0) (cs := [.int .i64 r_6.Num.A, .int .i64 r_6.Num.B, .int .i64 r_6.Num.C, .int .i64 r_6.Num.D, .int .i64 r_6.Exp]) (vs := [.int .i64 r_6.Num.A, .int .i64 r_6.Num.B, .int .i64 r_6.Num.C, .int .i64 r_6.Num.D, .int .i64 r_6.Exp]) k_ag_83 k_sz_83_5 rfl rfl (hS12.cf (i := 5) rfl) rfl rfl) ?_
    refine sq 36 rfl rfl (Y_loadA (B := some ⟨b1, 0, none⟩) (i := 0) (cs := [.int .i64 r_3.Num.A, .int .i64 r_3.Num.B, .int .i64 r_3.Num.C, .int .i64 r_3.Num.D, .int .i64 r_3.Exp]) (vs := [.int .i64 r_3.Num.A, .int .i64 r_3.Num.B, .int .i64 r_3.Num.C, .int .i64 r_3.Num.D, .int .i64 r_3.Exp]) k_ag_83 k_sz_83_5 rfl rfl (hS12.cf (i := 2) rfl) rfl rfl) ?_
    obtain ⟨r_8, hc5, hF2⟩ := bind_inv hF2
    refine sc 37 rfl rfl (Yc_func (g := 44) (vs := [.agg #[.int .i64 r_6.Num.A, .int .i64 r_6.Num.B, .int .i64 r_6.Num.C, .int .i64 r_6.Num.D, .int .i64 r_6.Exp], .agg #[.int .i64 r_3.Num.A, .int .i64 r_3.Num.B, .int .i64 r_3.Num.C, .int .i64 r_3.Num.D, .int .i64 r_3.Exp]]) k_call_44 rfl (mc rfl (mc rfl mn)) (c_laws_eqDyadic r_6 r_3 _  (hS12.inn0 [] rfl) hc5)) ?_
    rintro _ w_12 ⟨rfl, hd5⟩
    have hS13 := hS12.out00 hd5
    have hS13 : ST w0 [] _ [⟨some ⟨b, 0, none⟩, 41, [.int .i64 aC.Qubits, .slice B aC.Gates.length c], 2⟩, ⟨B1, 171, (r_2.Gates.flatMap enc_Gate), c1 * 3⟩, ⟨some ⟨b1, 0, none⟩, 83, [.int .i64 r_3.Num.A, .int .i64 r_3.Num.B, .int .i64 r_3.Num.C, .int .i64 r_3.Num.D, .int .i64 r_3.Exp], 5⟩, ⟨B2, 171, (r_5.Gates.flatMap enc_Gate), c2 * 3⟩, ⟨some ⟨b2, 0, none⟩, 57, [.int .i64 r_5.Qubits, .slice B2 r_5.Gates.length c2], 2⟩, ⟨some ⟨b3, 0, none⟩, 83, [.int .i64 r_6.Num.A, .int .i64 r_6.Num.B, .int .i64 r_6.Num.C, .int .i64 r_6.Num.D, .int .i64 r_6.Exp], 5⟩] [⟨B, (aC.Gates.flatMap enc_Gate)⟩] := hS13
    refine sq 38 rfl rfl (Y_not (p := r_8) rfl rfl) ?_
    refine sq 39 rfl rfl (Y_move (v := .bool (!r_8)) rfl rfl) ?_
    refine sgq 40 (B := (!(!r_8))) (v := .bool r_7) rfl rfl (wt_f (gd_of (t := 39) (by kernel_rfl) rfl)) (fun hg => (Y_move (v := .bool r_7) rfl rfl)) ?_
    refine sgq 41 (B := (!(!r_8))) (v := .bool r_4) rfl rfl (wt_f (gd_of (t := 39) (by kernel_rfl) rfl)) (fun hg1 => (Y_move (v := .bool r_4) rfl rfl)) ?_
    refine sgq 42 (B := (!(!r_8))) (v := .bool (!(r_7 == r_4))) rfl rfl (wt_f (gd_of (t := 39) (by kernel_rfl) rfl)) (fun hg2 => (Y_bne (p := r_7) (q := r_4) k_und_4 rfl (gv_of (B := (!(!r_8))) (v := .bool r_7) hg2) (gv_of (B := (!(!r_8))) (v := .bool r_4) hg2))) ?_
    refine sq 43 rfl rfl (Y_or (b := (!r_8)) (z := (!(r_7 == r_4))) rfl rfl rfl rfl) ?_
    refine rw_nil ?_
    refine cw_cond (b := ((!r_8) || (!(r_7 == r_4)))) rfl (fun hb1 => ?_) (fun hb1 => ?_)
    · skip
      have hF3 := ct hF2 hb1
      refine cw_seq ?_
      refine cw_region ?_
      refine sq 6 rfl rfl (Y_assign (v := .bool false) rfl rfl) ?_
      refine rw_nil ?_
      refine cw_ret ?_
      obtain rfl := some_inj hF3
      exact ret1 Try.results9 (v1 := .bool false) (resAt_tmp rfl) ⟨rfl, (ST.subR (R' := []) (hS13.sel [] rfl rfl) (fun _ h => by cases h))⟩
    · skip
      have hF4 := cf' hF2 hb1
      refine cw_skip ?_
      refine cw_seq ?_
      refine cw_seq ?_
      obtain ⟨r_9, hc6, hF4⟩ := bind_inv hF4
      obtain ⟨r_10, hc7, hF4⟩ := bind_inv hF4
      refine ra_start (ST.sel hS13 [0, 1, 2, 3, 4, 5] rfl rfl).fn (by kernel_rfl) ?_
      have hS16 := hS13.drew
      refine ra_q 0 44 (v := .agg #[.int .i64 r_5.Qubits, .slice B2 r_5.Gates.length c2]) rfl rfl rfl (by kernel_rfl) (by kernel_rfl) (by kernel_rfl) (ST.sel hS16 [0, 1, 2, 3, 4, 5] rfl rfl) (fun w' hw' => (Y_loadA (B := some ⟨b2, 0, none⟩) (i := 0) (cs := [.int .i64 r_5.Qubits, .slice B2 r_5.Gates.length c2]) (vs := [.int .i64 r_5.Qubits, .slice B2 r_5.Gates.length c2]) k_ag_57 k_sz_57_2 rfl rfl (ST.cf hw' (i := 4) rfl) rfl rfl)) ?_
      refine ra_q 1 45 (v := .agg #[.int .i64 aC.Qubits, .slice B aC.Gates.length c]) rfl rfl rfl (by kernel_rfl) (by kernel_rfl) (by kernel_rfl) (ST.sel hS16 [0, 1, 2, 3, 4, 5] rfl rfl) (fun w' hw' => (Y_loadA (B := some ⟨b, 0, none⟩) (i := 0) (cs := [.int .i64 aC.Qubits, .slice B aC.Gates.length c]) (vs := [.int .i64 aC.Qubits, .slice B aC.Gates.length c]) k_ag_41 k_sz_41_2 rfl rfl (ST.cf hw' (i := 0) rfl) rfl rfl)) ?_
      refine ra_all (rs := [2]) (by kernel_rfl) rfl ?_
      refine ra_c 46 (i := 2) rfl rfl rfl (Yc_func (g := 28) (vs := [.agg #[.int .i64 aC.Qubits, .slice B aC.Gates.length c]]) k_call_28 rfl (mc rfl mn) (c_laws_toCircuit aC B c aC.Gates.length _ rfl (hS16.inn0 [(true, 0)] rfl) hc6)) ?_ ?_
      · rintro _ w_13 ⟨B3, c3, rfl, hd6⟩
        have hS17 := hS16.out0 hd6
        have hS17 : ST w0 [] _ [⟨some ⟨b, 0, none⟩, 41, [.int .i64 aC.Qubits, .slice B aC.Gates.length c], 2⟩, ⟨B1, 171, (r_2.Gates.flatMap enc_Gate), c1 * 3⟩, ⟨some ⟨b1, 0, none⟩, 83, [.int .i64 r_3.Num.A, .int .i64 r_3.Num.B, .int .i64 r_3.Num.C, .int .i64 r_3.Num.D, .int .i64 r_3.Exp], 5⟩, ⟨B2, 171, (r_5.Gates.flatMap enc_Gate), c2 * 3⟩, ⟨some ⟨b2, 0, none⟩, 57, [.int .i64 r_5.Qubits, .slice B2 r_5.Gates.length c2], 2⟩, ⟨some ⟨b3, 0, none⟩, 83, [.int .i64 r_6.Num.A, .int .i64 r_6.Num.B, .int .i64 r_6.Num.C, .int .i64 r_6.Num.D, .int .i64 r_6.Exp], 5⟩, ⟨B3, 171, (r_9.Gates.flatMap enc_Gate), c3 * 3⟩] [⟨B, (aC.Gates.flatMap enc_Gate)⟩] := hS17
        refine ⟨(ST.sel hS17 [0, 1, 2, 3, 4, 5] rfl rfl), ?_⟩
        refine ra_all (rs := [3]) (by kernel_rfl) rfl ?_
        refine ra_c 47 (i := 3) rfl rfl rfl (Yc_func (g := 32) (vs := [.agg #[.int .i64 r_5.Qubits, .slice B2 r_5.Gates.length c2], .agg #[.int .i64 r_9.Qubits, .slice B3 r_9.Gates.length c3]]) k_call_32 rfl (mc rfl (mc rfl mn)) (c_laws_eqCircuit r_5 r_9 B2 c2 r_5.Gates.length B3 c3 r_9.Gates.length _ rfl rfl (hS17.inn0 [(false, 3), (false, 6)] rfl) hc7)) ?_ ?_
        · rintro _ w_14 ⟨rfl, hd7⟩
          have hS18 := hS17.out00 hd7
          have hS18 : ST w0 [] _ [⟨some ⟨b, 0, none⟩, 41, [.int .i64 aC.Qubits, .slice B aC.Gates.length c], 2⟩, ⟨B1, 171, (r_2.Gates.flatMap enc_Gate), c1 * 3⟩, ⟨some ⟨b1, 0, none⟩, 83, [.int .i64 r_3.Num.A, .int .i64 r_3.Num.B, .int .i64 r_3.Num.C, .int .i64 r_3.Num.D, .int .i64 r_3.Exp], 5⟩, ⟨B2, 171, (r_5.Gates.flatMap enc_Gate), c2 * 3⟩, ⟨some ⟨b2, 0, none⟩, 57, [.int .i64 r_5.Qubits, .slice B2 r_5.Gates.length c2], 2⟩, ⟨some ⟨b3, 0, none⟩, 83, [.int .i64 r_6.Num.A, .int .i64 r_6.Num.B, .int .i64 r_6.Num.C, .int .i64 r_6.Num.D, .int .i64 r_6.Exp], 5⟩, ⟨B3, 171, (r_9.Gates.flatMap enc_Gate), c3 * 3⟩] [⟨B, (aC.Gates.flatMap enc_Gate)⟩] := hS18
          refine ⟨(ST.sel hS18 [0, 1, 2, 3, 4, 5] rfl rfl), ?_⟩
          refine ra_q 4 48 (v := .bool (!r_10)) rfl rfl rfl (by kernel_rfl) (by kernel_rfl) (by kernel_rfl) (ST.sel hS18 [0, 1, 2, 3, 4, 5] rfl rfl) (fun w' hw' => (Y_not (p := r_10) rfl rfl)) ?_
          refine ra_done (by kernel_rfl) ?_
          refine cw_cond (b := (!r_10)) rfl (fun hb2 => ?_) (fun hb2 => ?_)
          · skip
            have hF5 := ct hF4 hb2
            refine cw_seq ?_
            refine cw_region ?_
            refine sq 6 rfl rfl (Y_assign (v := .bool false) rfl rfl) ?_
            refine rw_nil ?_
            refine cw_ret ?_
            obtain rfl := some_inj hF5
            exact ret1 Try.results9 (v1 := .bool false) (resAt_tmp rfl) ⟨rfl, (ST.subR (R' := []) (hS18.sel [] rfl rfl) (fun _ h => by cases h))⟩
          · skip
            have hF6 := cf' hF4 hb2
            refine cw_skip ?_
            refine cw_seq ?_
            refine cw_region ?_
            refine sq 6 rfl rfl (Y_assign (v := .bool true) rfl rfl) ?_
            refine rw_nil ?_
            refine cw_ret ?_
            obtain rfl := some_inj hF6
            exact ret1 Try.results9 (v1 := .bool true) (resAt_tmp rfl) ⟨rfl, (ST.subR (R' := []) (hS18.sel [] rfl rfl) (fun _ h => by cases h))⟩
        exact allR_nil
      exact allR_nil
end Go.VK
