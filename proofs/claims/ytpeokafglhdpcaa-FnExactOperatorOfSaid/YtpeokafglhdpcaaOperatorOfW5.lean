/- Walks: each Go function returns what its Lean function says. By program. -/
import Derived.Test.YtpeokafglhdpcaaOperatorOfFa
import Derived.Test.YtpeokafglhdpcaaOperatorOfW4
set_option linter.unusedVariables false
set_option maxRecDepth 100000
set_option maxHeartbeats 1000000
namespace Go.VK
open Go.RowKit
open Go.Proofs
attribute [local irreducible] CW RW RA CV Y Yw Yc Ys RetOf
attribute [local irreducible] F_laws_eqRing F_laws_eqDyadic F_laws_eqDyadicS F_laws_eqMatrix F_laws_markDyadicS F_laws_markMatrix F_laws_heldDyadicS F_laws_heldMatrix F_laws_szGateS F_laws_szCircuit F_laws_toGate F_laws_toGateS F_laws_toCircuit F_laws_eqGate F_laws_eqGateS F_laws_eqCircuit F_laws_markGateS F_laws_markCircuit F_spec_l1Turn F_spec_l2Power F_spec_l3Unit F_spec_l1In F_spec_l4Gate F_spec_l4Good F_spec_l2C_matrix F_spec_l1All F_spec_l1Good F_spec_l2C_ring F_spec_l1Root F_spec_l1Even F_spec_l1Half F_spec_l2Low F_spec_l1Add F_spec_l2C_add F_spec_l1Mul F_spec_l2C_mul F_spec_l2C_times F_spec_l6Bit F_spec_l1Neg F_spec_l2Neg F_spec_l6One F_spec_l6Cell F_spec_l6Gate F_spec_l2C_run F_spec_OperatorOf F_impl_within F_impl_isDim F_impl_matrixOf F_impl_whole F_impl_IdentityMatrix_1 F_impl_IdentityMatrix F_slices_IndexFunc_impl_Gate_impl_Gate F_slices_ContainsFunc_impl_Gate_impl_Gate F_impl_isTwo F_impl_IsValidGate F_impl_IsValidCircuit_1 F_impl_IsValidCircuit F_slices_IndexFunc_impl_Dyadic_impl_Dyadic F_slices_ContainsFunc_impl_Dyadic_impl_Dyadic F_impl_isCoef F_impl_IsValidRing F_impl_isEven F_impl_IsValidDyadic F_impl_IsValidMatrix_1 F_impl_IsValidMatrix F_impl_ringIf F_impl_DivRootTwo F_impl_DyadicOf F_impl_MulRootTwo F_impl_raised F_impl_combined F_impl_AddRing F_impl_AddDyadic F_impl_MulRing F_impl_MulDyadic F_impl_Matrix_at F_impl_MulMatrix_1 F_impl_MulMatrix F_impl_bitOf F_impl_MulOmega F_impl_phase F_impl_small F_impl_flipped F_impl_comesFrom F_impl_entry F_impl_GateMatrix_1 F_impl_GateMatrix F_impl_applied F_impl_OperatorOf F_laws_FnExactOperatorOf
theorem c_impl_applied (c : TCircuit) (m : TMatrix) (ok : Bool) (B : Option Addr) (c1 n : Nat) (B1 : Option Addr) (c2 n1 : Nat) (w0 : World) (hn : c.Gates.length = n) (hn1 : m.Cells.length = n1) (hS : ST w0 (bl [⟨B1, 83, (m.Cells.flatMap enc_Dyadic), c2 * 5⟩]) w0 [⟨B1, 83, (m.Cells.flatMap enc_Dyadic), c2 * 5⟩] [⟨B, (c.Gates.flatMap enc_Gate)⟩]) {r_ : TMatrix} {r_1 : Bool} (hF : F_impl_applied c m ok = some (r_, r_1)) :
    CV Try.prog 137 #[.agg #[.int .i64 c.Qubits, .slice B n c1], .agg #[.int .i64 m.Rows, .int .i64 m.Cols, .slice B1 n1 c2], .bool ok] w0 (fun v w' => ∃ (B2 : Option Addr) (c3 : Nat), v = .tuple #[.agg #[.int .i64 r_.Rows, .int .i64 r_.Cols, .slice B2 r_.Cells.length c3], .bool r_1] ∧ ST w0 (bl [⟨B1, 83, (m.Cells.flatMap enc_Dyadic), c2 * 5⟩]) w' [⟨B2, 83, (r_.Cells.flatMap enc_Dyadic), c3 * 5⟩] []) := by
  subst hn
  subst hn1
  unfold F_impl_applied at hF
  refine cv_of_cw 40 Try.func137 rfl Try.ntmps137 rfl ?_
  refine cw_seq ?_
  refine cw_region ?_
  refine ss 3 rfl rfl (Ys_box (T := 57) (v := .agg #[.int .i64 c.Qubits, .slice B c.Gates.length c1]) (cs := [.int .i64 c.Qubits, .slice B c.Gates.length c1]) (m := 2) hS rfl rfl rfl rfl) ?_
  rintro _ w_ ⟨b, rfl, hS1⟩
  have hS1 : ST w0 (bl [⟨B1, 83, (m.Cells.flatMap enc_Dyadic), c2 * 5⟩]) _ [⟨B1, 83, (m.Cells.flatMap enc_Dyadic), c2 * 5⟩, ⟨some ⟨b, 0, none⟩, 57, [.int .i64 c.Qubits, .slice B c.Gates.length c1], 2⟩] [⟨B, (c.Gates.flatMap enc_Gate)⟩] := hS1
  refine ss 4 rfl rfl (Ys_box (T := 26) (v := .agg #[.int .i64 m.Rows, .int .i64 m.Cols, .slice B1 m.Cells.length c2]) (cs := [.int .i64 m.Rows, .int .i64 m.Cols, .slice B1 m.Cells.length c2]) (m := 3) hS1 rfl rfl rfl rfl) ?_
  rintro _ w_1 ⟨b1, rfl, hS2⟩
  have hS2 : ST w0 (bl [⟨B1, 83, (m.Cells.flatMap enc_Dyadic), c2 * 5⟩]) _ [⟨B1, 83, (m.Cells.flatMap enc_Dyadic), c2 * 5⟩, ⟨some ⟨b, 0, none⟩, 57, [.int .i64 c.Qubits, .slice B c.Gates.length c1], 2⟩, ⟨some ⟨b1, 0, none⟩, 26, [.int .i64 m.Rows, .int .i64 m.Cols, .slice B1 m.Cells.length c2], 3⟩] [⟨B, (c.Gates.flatMap enc_Gate)⟩] := hS2
  refine ss 6 rfl rfl (Ys_alloc (T := 26) (cs := [.int .i64 0, .int .i64 0, .slice none 0 0]) (m := 3) hS2 k_zero_26 rfl rfl rfl) ?_
  rintro _ w_2 ⟨b2, rfl, hS3⟩
  have hS3 : ST w0 (bl [⟨B1, 83, (m.Cells.flatMap enc_Dyadic), c2 * 5⟩]) _ [⟨B1, 83, (m.Cells.flatMap enc_Dyadic), c2 * 5⟩, ⟨some ⟨b, 0, none⟩, 57, [.int .i64 c.Qubits, .slice B c.Gates.length c1], 2⟩, ⟨some ⟨b1, 0, none⟩, 26, [.int .i64 m.Rows, .int .i64 m.Cols, .slice B1 m.Cells.length c2], 3⟩, ⟨some ⟨b2, 0, none⟩, 26, [.int .i64 0, .int .i64 0, .slice none 0 0], 3⟩] [⟨B, (c.Gates.flatMap enc_Gate)⟩] := hS3
  refine sq 7 rfl rfl (Y_assign (v := .bool false) rfl rfl) ?_
  refine rw_nil ?_
  refine cw_seq ?_
  refine cw_seq ?_
  refine cw_region ?_
  refine sq 8 rfl rfl (Y_assign (v := .int .i64 0) rfl rfl) ?_
  refine rw_nil ?_
  obtain ⟨z, hz, hF1⟩ := bind_inv hF
  refine cw_block ?_
  refine cw_loop (fun k f w => ∃ (ok1 : Bool) (Rows : Int) (Cols : Int) (Cells : List TDyadic) (i : Int) (B3 : Option Addr) (c4 : Nat), FF f [(2, .bool ok1), (3, pt (some ⟨b, 0, none⟩) 0), (4, pt (some ⟨b1, 0, none⟩) 0), (6, pt (some ⟨b2, 0, none⟩) 0), (8, .int .i64 i)] ∧ ST w0 (bl [⟨B1, 83, (m.Cells.flatMap enc_Dyadic), c2 * 5⟩]) w [⟨some ⟨b, 0, none⟩, 57, [.int .i64 c.Qubits, .slice B c.Gates.length c1], 2⟩, ⟨some ⟨b1, 0, none⟩, 26, [.int .i64 Rows, .int .i64 Cols, .slice B3 Cells.length c4], 3⟩, ⟨B3, 83, (Cells.flatMap enc_Dyadic), c4 * 5⟩, ⟨some ⟨b2, 0, none⟩, 26, [.int .i64 0, .int .i64 0, .slice none 0 0], 3⟩] [⟨B, (c.Gates.flatMap enc_Gate)⟩] ∧ whX (F_impl_applied_l1 c) k (ok1, Rows, Cols, Cells, i) = some z) fuel ⟨ok, m.Rows, m.Cols, m.Cells, 0, B1, c2, (FF.cons rfl (FF.cons rfl (FF.cons rfl (FF.cons rfl (FF.cons rfl FF.nil))))), (hS3.sel [1, 2, 0, 3] rfl rfl), hz⟩ ?_
  rintro k_ f w ⟨ok1, Rows, Cols, Cells, i, B3, c4, hf, hS4, hL⟩
  obtain ⟨k_1, y, rfl, hb, hL1⟩ := whX_go hL
  unfold F_impl_applied_l1 at hb
  refine cw_seq ?_
  refine cw_seq ?_
  refine cw_region ?_
  refine sq 11 rfl rfl (Y_move (v := .int .i64 i) rfl (hf.get 8 4 rfl)) ?_
  refine sq 12 rfl rfl (Y_fieldAddr (B := some ⟨b, 0, none⟩) (i := 0) (s := 0) k_fd_57_1_1_55 k_sz_55_1 rfl (hf.get 3 1 rfl)) ?_
  refine sq 13 rfl rfl (Y_load1 (B := some ⟨b, 0, none⟩) (i := 1) (cs := [.int .i64 c.Qubits, .slice B c.Gates.length c1]) (v := .slice B c.Gates.length c1) k_sc_55 rfl rfl (hS4.cf (i := 0) rfl) rfl) ?_
  refine sq 14 rfl rfl (Y_len (B := B) (m := c.Gates.length) (c := c1) k_sl_55_171 rfl rfl) ?_
  refine sq 15 rfl rfl (Y_lt (k := .i64) (a := i) (b := (c.Gates.length : Int)) rfl rfl rfl) ?_
  refine sq 16 rfl rfl (Y_move (v := .bool (decide (i < (c.Gates.length : Int)))) rfl rfl) ?_
  refine sgq 17 (B := (decide (i < (c.Gates.length : Int)))) (v := .bool ok1) rfl rfl (wt_t (gd_of (t := 16) (by kernel_rfl) rfl)) (fun hg => (Y_move (v := .bool ok1) rfl (hf.get 2 0 rfl))) ?_
  refine sq 18 rfl rfl (Y_and (b := (decide (i < (c.Gates.length : Int)))) (z := ok1) rfl rfl rfl rfl) ?_
  refine rw_nil ?_
  refine cw_cond (b := ((decide (i < (c.Gates.length : Int))) && ok1)) rfl (fun hb1 => ?_) (fun hb1 => ?_)
  · skip
    have hF2 := ct hb hb1
    refine cw_skip ?_
    refine cw_seq ?_
    refine cw_block ?_
    refine cw_seq ?_
    obtain ⟨x, hx, hF2⟩ := bind_inv hF2
    obtain ⟨⟨r_2, r_3⟩, hc, hF2⟩ := bind_inv hF2
    refine cw_mid (fun f w => ∃ (B5 : Option Addr) (B6 : Option Addr) (c6 : Nat), FF f [(3, pt (some ⟨b, 0, none⟩) 0), (4, pt (some ⟨b1, 0, none⟩) 0), (6, pt (some ⟨b2, 0, none⟩) 0), (8, .int .i64 i), (9, pt B5 0)] ∧ ST w0 (bl [⟨B1, 83, (m.Cells.flatMap enc_Dyadic), c2 * 5⟩]) w [⟨some ⟨b, 0, none⟩, 57, [.int .i64 c.Qubits, .slice B c.Gates.length c1], 2⟩, ⟨some ⟨b1, 0, none⟩, 26, [.int .i64 Rows, .int .i64 Cols, .slice B3 Cells.length c4], 3⟩, ⟨B3, 83, (Cells.flatMap enc_Dyadic), c4 * 5⟩, ⟨some ⟨b2, 0, none⟩, 26, [.int .i64 0, .int .i64 0, .slice none 0 0], 3⟩, ⟨B5, 26, [.int .i64 r_2.Rows, .int .i64 r_2.Cols, .slice B6 r_2.Cells.length c6], 3⟩, ⟨B6, 83, (r_2.Cells.flatMap enc_Dyadic), c6 * 5⟩] [⟨B, (c.Gates.flatMap enc_Gate)⟩]) ?_ ?_
    · skip
      refine ra_start (ST.sel hS4 [0, 1, 2, 3] rfl rfl).fn (by kernel_rfl) ?_
      have hS7 := hS4.drew
      refine ra_q 0 22 (v := pt (some ⟨b, 0, none⟩) 0) rfl rfl rfl (by kernel_rfl) (by kernel_rfl) (by kernel_rfl) (ST.sel hS7 [0, 1, 2, 3] rfl rfl) (fun w' hw' => (Y_fieldAddr (B := some ⟨b, 0, none⟩) (i := 0) (s := 0) k_fd_57_0_0_3 k_sz_3_1 rfl (hf.get 3 1 rfl))) ?_
      refine ra_q 1 23 (v := .int .i64 c.Qubits) rfl rfl rfl (by kernel_rfl) (by kernel_rfl) (by kernel_rfl) (ST.sel hS7 [0, 1, 2, 3] rfl rfl) (fun w' hw' => (Y_load1 (B := some ⟨b, 0, none⟩) (i := 0) (cs := [.int .i64 c.Qubits, .slice B c.Gates.length c1]) (v := .int .i64 c.Qubits) k_sc_3 rfl rfl (ST.cf hw' (i := 0) rfl) rfl)) ?_
      refine ra_q 2 24 (v := pt (some ⟨b, 0, none⟩) 1) rfl rfl rfl (by kernel_rfl) (by kernel_rfl) (by kernel_rfl) (ST.sel hS7 [0, 1, 2, 3] rfl rfl) (fun w' hw' => (Y_fieldAddr (B := some ⟨b, 0, none⟩) (i := 0) (s := 0) k_fd_57_1_1_55 k_sz_55_1 rfl (hf.get 3 1 rfl))) ?_
      refine ra_q 3 25 (v := .slice B c.Gates.length c1) rfl rfl rfl (by kernel_rfl) (by kernel_rfl) (by kernel_rfl) (ST.sel hS7 [0, 1, 2, 3] rfl rfl) (fun w' hw' => (Y_load1 (B := some ⟨b, 0, none⟩) (i := 1) (cs := [.int .i64 c.Qubits, .slice B c.Gates.length c1]) (v := .slice B c.Gates.length c1) k_sc_55 rfl rfl (ST.cf hw' (i := 0) rfl) rfl)) ?_
      refine ra_q 4 26 (v := .int .i64 i) rfl rfl rfl (by kernel_rfl) (by kernel_rfl) (by kernel_rfl) (ST.sel hS7 [0, 1, 2, 3] rfl rfl) (fun w' hw' => (Y_move (v := .int .i64 i) rfl (hf.get 8 4 rfl))) ?_
      refine ra_q 5 27 (v := pt B (i.toNat * 3)) rfl rfl rfl (by kernel_rfl) (by kernel_rfl) (by kernel_rfl) (ST.sel hS7 [0, 1, 2, 3] rfl rfl) (fun w' hw' => (Y_index (B := B) (m := c.Gates.length) (c := c1) (k := .i64) (i := i) k_sl_55_171 k_sz_171_3 rfl rfl rfl (gi_isSome enc_Gate_len rfl (ST.rf hw' (i := 0) rfl) hx) (getI_nn hx) (getI_ltI hx rfl))) ?_
      refine ra_q 6 28 (v := .agg #[.int .i64 x.Kind, .int .i64 x.A, .int .i64 x.B]) rfl rfl rfl (by kernel_rfl) (by kernel_rfl) (by kernel_rfl) (ST.sel hS7 [0, 1, 2, 3] rfl rfl) (fun w' hw' => (Y_loadA (B := B) (i := i.toNat * 3) (cs := (c.Gates.flatMap enc_Gate)) (vs := [.int .i64 x.Kind, .int .i64 x.A, .int .i64 x.B]) k_ag_171 k_sz_171_3 rfl rfl (ST.rf hw' (i := 0) rfl) (enc_Gate_len x) (gi_seg enc_Gate_len hx))) ?_
      refine ra_all (rs := [7, 11]) (by kernel_rfl) rfl ?_
      refine ra_c 29 (i := 7) rfl rfl rfl (Yc_func (g := 218) (vs := [.int .i64 c.Qubits, .agg #[.int .i64 x.Kind, .int .i64 x.A, .int .i64 x.B]]) k_call_218 rfl (mc rfl (mc rfl mn)) (c_impl_GateMatrix c.Qubits x _  (hS7.inn0 [] rfl) hc)) ?_ ?_
      · rintro _ w_3 ⟨B4, c5, rfl, hd⟩
        have hS8 := hS7.out0 hd
        have hS8 : ST w0 (bl [⟨B1, 83, (m.Cells.flatMap enc_Dyadic), c2 * 5⟩]) _ [⟨some ⟨b, 0, none⟩, 57, [.int .i64 c.Qubits, .slice B c.Gates.length c1], 2⟩, ⟨some ⟨b1, 0, none⟩, 26, [.int .i64 Rows, .int .i64 Cols, .slice B3 Cells.length c4], 3⟩, ⟨B3, 83, (Cells.flatMap enc_Dyadic), c4 * 5⟩, ⟨some ⟨b2, 0, none⟩, 26, [.int .i64 0, .int .i64 0, .slice none 0 0], 3⟩, ⟨B4, 83, (r_2.Cells.flatMap enc_Dyadic), c5 * 5⟩] [⟨B, (c.Gates.flatMap enc_Gate)⟩] := hS8
        refine ⟨(ST.sel hS8 [0, 1, 2, 3] rfl rfl), ?_⟩
        refine ra_q 8 21 (v := .tuple #[.agg #[.int .i64 r_2.Rows, .int .i64 r_2.Cols, .slice B4 r_2.Cells.length c5], .bool r_3]) rfl rfl rfl (by kernel_rfl) (by kernel_rfl) (by kernel_rfl) (ST.sel hS8 [0, 1, 2, 3] rfl rfl) (fun w' hw' => (Y_move (v := .tuple #[.agg #[.int .i64 r_2.Rows, .int .i64 r_2.Cols, .slice B4 r_2.Cells.length c5], .bool r_3]) rfl rfl)) ?_
        refine ra_q 9 30 (v := .agg #[.int .i64 r_2.Rows, .int .i64 r_2.Cols, .slice B4 r_2.Cells.length c5]) rfl rfl rfl (by kernel_rfl) (by kernel_rfl) (by kernel_rfl) (ST.sel hS8 [0, 1, 2, 3] rfl rfl) (fun w' hw' => (Y_extract (v := .agg #[.int .i64 r_2.Rows, .int .i64 r_2.Cols, .slice B4 r_2.Cells.length c5]) rfl rfl rfl)) ?_
        refine ra_q 10 31 (v := .bool r_3) rfl rfl rfl (by kernel_rfl) (by kernel_rfl) (by kernel_rfl) (ST.sel hS8 [0, 1, 2, 3] rfl rfl) (fun w' hw' => (Y_extract (v := .bool r_3) rfl rfl rfl)) ?_
        refine ra_all (rs := [11]) (by kernel_rfl) rfl ?_
        refine ra_s 9 (i := 11) rfl rfl rfl (Ys_alloc (T := 26) (cs := [.int .i64 0, .int .i64 0, .slice none 0 0]) (m := 3) hS8 k_zero_26 rfl rfl rfl) ?_ ?_
        · rintro _ w_4 ⟨b3, rfl, hS9⟩
          have hS9 : ST w0 (bl [⟨B1, 83, (m.Cells.flatMap enc_Dyadic), c2 * 5⟩]) _ [⟨some ⟨b, 0, none⟩, 57, [.int .i64 c.Qubits, .slice B c.Gates.length c1], 2⟩, ⟨some ⟨b1, 0, none⟩, 26, [.int .i64 Rows, .int .i64 Cols, .slice B3 Cells.length c4], 3⟩, ⟨B3, 83, (Cells.flatMap enc_Dyadic), c4 * 5⟩, ⟨some ⟨b2, 0, none⟩, 26, [.int .i64 0, .int .i64 0, .slice none 0 0], 3⟩, ⟨B4, 83, (r_2.Cells.flatMap enc_Dyadic), c5 * 5⟩, ⟨some ⟨b3, 0, none⟩, 26, [.int .i64 0, .int .i64 0, .slice none 0 0], 3⟩] [⟨B, (c.Gates.flatMap enc_Gate)⟩] := hS9
          refine ⟨(ST.sel hS9 [0, 1, 2, 3] rfl rfl), ?_⟩
          refine ra_all (rs := [12]) (by kernel_rfl) rfl ?_
          refine ra_s0 (i := 12) rfl rfl rfl (Ys_store (i := 5) (s := 3) (B := some ⟨b3, 0, none⟩) (T' := 26) (v := .agg #[.int .i64 r_2.Rows, .int .i64 r_2.Cols, .slice B4 r_2.Cells.length c5]) (vs := [.int .i64 r_2.Rows, .int .i64 r_2.Cols, .slice B4 r_2.Cells.length c5]) (k := 0) (cs' := [.int .i64 r_2.Rows, .int .i64 r_2.Cols, .slice B4 r_2.Cells.length c5]) hS9 k_sz_26_3 rfl rfl rfl rfl rfl rfl rfl (Nat.le_of_ble_eq_true rfl) rfl rfl) ?_ ?_
          · rintro _ w_5 ⟨rfl, hS10⟩
            have hS10 : ST w0 (bl [⟨B1, 83, (m.Cells.flatMap enc_Dyadic), c2 * 5⟩]) _ [⟨some ⟨b, 0, none⟩, 57, [.int .i64 c.Qubits, .slice B c.Gates.length c1], 2⟩, ⟨some ⟨b1, 0, none⟩, 26, [.int .i64 Rows, .int .i64 Cols, .slice B3 Cells.length c4], 3⟩, ⟨B3, 83, (Cells.flatMap enc_Dyadic), c4 * 5⟩, ⟨some ⟨b2, 0, none⟩, 26, [.int .i64 0, .int .i64 0, .slice none 0 0], 3⟩, ⟨B4, 83, (r_2.Cells.flatMap enc_Dyadic), c5 * 5⟩, ⟨some ⟨b3, 0, none⟩, 26, [.int .i64 r_2.Rows, .int .i64 r_2.Cols, .slice B4 r_2.Cells.length c5], 3⟩] [⟨B, (c.Gates.flatMap enc_Gate)⟩] := hS10
            refine ⟨(ST.sel hS10 [0, 1, 2, 3] rfl rfl), ?_⟩
            refine ra_q 13 10 (v := .bool r_3) rfl rfl rfl (by kernel_rfl) (by kernel_rfl) (by kernel_rfl) (ST.sel hS10 [0, 1, 2, 3] rfl rfl) (fun w' hw' => (Y_assign (v := .bool r_3) rfl rfl)) ?_
            refine ra_done (by kernel_rfl) ?_
            exact ⟨some ⟨b3, 0, none⟩, B4, c5, (FF.cons (hf.get 3 1 rfl) (FF.cons (hf.get 4 2 rfl) (FF.cons (hf.get 6 3 rfl) (FF.cons (hf.get 8 4 rfl) (FF.cons rfl FF.nil))))), (hS10.sel [0, 1, 2, 3, 5, 4] rfl rfl)⟩
          exact allR_nil
        exact allR_nil
      refine ra_s 9 (i := 11) rfl rfl rfl (Ys_alloc (T := 26) (cs := [.int .i64 0, .int .i64 0, .slice none 0 0]) (m := 3) hS7 k_zero_26 rfl rfl rfl) ?_ ?_
      · rintro _ w_6 ⟨b3, rfl, hS11⟩
        have hS11 : ST w0 (bl [⟨B1, 83, (m.Cells.flatMap enc_Dyadic), c2 * 5⟩]) _ [⟨some ⟨b, 0, none⟩, 57, [.int .i64 c.Qubits, .slice B c.Gates.length c1], 2⟩, ⟨some ⟨b1, 0, none⟩, 26, [.int .i64 Rows, .int .i64 Cols, .slice B3 Cells.length c4], 3⟩, ⟨B3, 83, (Cells.flatMap enc_Dyadic), c4 * 5⟩, ⟨some ⟨b2, 0, none⟩, 26, [.int .i64 0, .int .i64 0, .slice none 0 0], 3⟩, ⟨some ⟨b3, 0, none⟩, 26, [.int .i64 0, .int .i64 0, .slice none 0 0], 3⟩] [⟨B, (c.Gates.flatMap enc_Gate)⟩] := hS11
        refine ⟨(ST.sel hS11 [0, 1, 2, 3] rfl rfl), ?_⟩
        refine ra_all (rs := [7]) (by kernel_rfl) rfl ?_
        refine ra_c 29 (i := 7) rfl rfl rfl (Yc_func (g := 218) (vs := [.int .i64 c.Qubits, .agg #[.int .i64 x.Kind, .int .i64 x.A, .int .i64 x.B]]) k_call_218 rfl (mc rfl (mc rfl mn)) (c_impl_GateMatrix c.Qubits x _  (hS11.inn0 [] rfl) hc)) ?_ ?_
        · rintro _ w_7 ⟨B4, c5, rfl, hd1⟩
          have hS12 := hS11.out0 hd1
          have hS12 : ST w0 (bl [⟨B1, 83, (m.Cells.flatMap enc_Dyadic), c2 * 5⟩]) _ [⟨some ⟨b, 0, none⟩, 57, [.int .i64 c.Qubits, .slice B c.Gates.length c1], 2⟩, ⟨some ⟨b1, 0, none⟩, 26, [.int .i64 Rows, .int .i64 Cols, .slice B3 Cells.length c4], 3⟩, ⟨B3, 83, (Cells.flatMap enc_Dyadic), c4 * 5⟩, ⟨some ⟨b2, 0, none⟩, 26, [.int .i64 0, .int .i64 0, .slice none 0 0], 3⟩, ⟨some ⟨b3, 0, none⟩, 26, [.int .i64 0, .int .i64 0, .slice none 0 0], 3⟩, ⟨B4, 83, (r_2.Cells.flatMap enc_Dyadic), c5 * 5⟩] [⟨B, (c.Gates.flatMap enc_Gate)⟩] := hS12
          refine ⟨(ST.sel hS12 [0, 1, 2, 3] rfl rfl), ?_⟩
          refine ra_q 8 21 (v := .tuple #[.agg #[.int .i64 r_2.Rows, .int .i64 r_2.Cols, .slice B4 r_2.Cells.length c5], .bool r_3]) rfl rfl rfl (by kernel_rfl) (by kernel_rfl) (by kernel_rfl) (ST.sel hS12 [0, 1, 2, 3] rfl rfl) (fun w' hw' => (Y_move (v := .tuple #[.agg #[.int .i64 r_2.Rows, .int .i64 r_2.Cols, .slice B4 r_2.Cells.length c5], .bool r_3]) rfl rfl)) ?_
          refine ra_q 9 30 (v := .agg #[.int .i64 r_2.Rows, .int .i64 r_2.Cols, .slice B4 r_2.Cells.length c5]) rfl rfl rfl (by kernel_rfl) (by kernel_rfl) (by kernel_rfl) (ST.sel hS12 [0, 1, 2, 3] rfl rfl) (fun w' hw' => (Y_extract (v := .agg #[.int .i64 r_2.Rows, .int .i64 r_2.Cols, .slice B4 r_2.Cells.length c5]) rfl rfl rfl)) ?_
          refine ra_q 10 31 (v := .bool r_3) rfl rfl rfl (by kernel_rfl) (by kernel_rfl) (by kernel_rfl) (ST.sel hS12 [0, 1, 2, 3] rfl rfl) (fun w' hw' => (Y_extract (v := .bool r_3) rfl rfl rfl)) ?_
          refine ra_all (rs := [12]) (by kernel_rfl) rfl ?_
          refine ra_s0 (i := 12) rfl rfl rfl (Ys_store (i := 4) (s := 3) (B := some ⟨b3, 0, none⟩) (T' := 26) (v := .agg #[.int .i64 r_2.Rows, .int .i64 r_2.Cols, .slice B4 r_2.Cells.length c5]) (vs := [.int .i64 r_2.Rows, .int .i64 r_2.Cols, .slice B4 r_2.Cells.length c5]) (k := 0) (cs' := [.int .i64 r_2.Rows, .int .i64 r_2.Cols, .slice B4 r_2.Cells.length c5]) hS12 k_sz_26_3 rfl rfl rfl rfl rfl rfl rfl (Nat.le_of_ble_eq_true rfl) rfl rfl) ?_ ?_
          · rintro _ w_8 ⟨rfl, hS13⟩
            have hS13 : ST w0 (bl [⟨B1, 83, (m.Cells.flatMap enc_Dyadic), c2 * 5⟩]) _ [⟨some ⟨b, 0, none⟩, 57, [.int .i64 c.Qubits, .slice B c.Gates.length c1], 2⟩, ⟨some ⟨b1, 0, none⟩, 26, [.int .i64 Rows, .int .i64 Cols, .slice B3 Cells.length c4], 3⟩, ⟨B3, 83, (Cells.flatMap enc_Dyadic), c4 * 5⟩, ⟨some ⟨b2, 0, none⟩, 26, [.int .i64 0, .int .i64 0, .slice none 0 0], 3⟩, ⟨some ⟨b3, 0, none⟩, 26, [.int .i64 r_2.Rows, .int .i64 r_2.Cols, .slice B4 r_2.Cells.length c5], 3⟩, ⟨B4, 83, (r_2.Cells.flatMap enc_Dyadic), c5 * 5⟩] [⟨B, (c.Gates.flatMap enc_Gate)⟩] := hS13
            refine ⟨(ST.sel hS13 [0, 1, 2, 3] rfl rfl), ?_⟩
            refine ra_q 13 10 (v := .bool r_3) rfl rfl rfl (by kernel_rfl) (by kernel_rfl) (by kernel_rfl) (ST.sel hS13 [0, 1, 2, 3] rfl rfl) (fun w' hw' => (Y_assign (v := .bool r_3) rfl rfl)) ?_
            refine ra_done (by kernel_rfl) ?_
            exact ⟨some ⟨b3, 0, none⟩, B4, c5, (FF.cons (hf.get 3 1 rfl) (FF.cons (hf.get 4 2 rfl) (FF.cons (hf.get 6 3 rfl) (FF.cons (hf.get 8 4 rfl) (FF.cons rfl FF.nil))))), (hS13.sel [0, 1, 2, 3, 4, 5] rfl rfl)⟩
          exact allR_nil
        exact allR_nil
      exact allR_nil
    rintro f w ⟨B5, B6, c6, hf1, hS6⟩
    refine cw_region ?_
    refine sq 33 rfl rfl (Y_loadA (B := B5) (i := 0) (cs := [.int .i64 r_2.Rows, .int .i64 r_2.Cols, .slice B6 r_2.Cells.length c6]) (vs := [.int .i64 r_2.Rows, .int .i64 r_2.Cols, .slice B6 r_2.Cells.length c6]) k_ag_26 k_sz_26_3 rfl (hf1.get 9 4 rfl) (hS6.cf (i := 4) rfl) rfl rfl) ?_
    refine sq 34 rfl rfl (Y_loadA (B := some ⟨b1, 0, none⟩) (i := 0) (cs := [.int .i64 Rows, .int .i64 Cols, .slice B3 Cells.length c4]) (vs := [.int .i64 Rows, .int .i64 Cols, .slice B3 Cells.length c4]) k_ag_26 k_sz_26_3 rfl (hf1.get 4 1 rfl) (hS6.cf (i := 1) rfl) rfl rfl) ?_
    obtain ⟨⟨r_4, r_5⟩, hc1, hF2⟩ := bind_inv hF2
    refine sc 35 rfl rfl (Yc_func (g := 75) (vs := [.agg #[.int .i64 r_2.Rows, .int .i64 r_2.Cols, .slice B6 r_2.Cells.length c6], .agg #[.int .i64 Rows, .int .i64 Cols, .slice B3 Cells.length c4]]) k_call_75 rfl (mc rfl (mc rfl mn)) (c_impl_MulMatrix r_2 (TMatrix.mk Rows Cols Cells) B6 c6 r_2.Cells.length B3 c4 Cells.length _ rfl rfl (hS6.inn0 [(false, 5), (false, 2)] rfl) hc1)) ?_
    rintro _ w_9 ⟨B7, c7, rfl, hd2⟩
    have hS14 := hS6.out0 hd2
    have hS14 : ST w0 (bl [⟨B1, 83, (m.Cells.flatMap enc_Dyadic), c2 * 5⟩]) _ [⟨some ⟨b, 0, none⟩, 57, [.int .i64 c.Qubits, .slice B c.Gates.length c1], 2⟩, ⟨some ⟨b1, 0, none⟩, 26, [.int .i64 Rows, .int .i64 Cols, .slice B3 Cells.length c4], 3⟩, ⟨B3, 83, (Cells.flatMap enc_Dyadic), c4 * 5⟩, ⟨some ⟨b2, 0, none⟩, 26, [.int .i64 0, .int .i64 0, .slice none 0 0], 3⟩, ⟨B5, 26, [.int .i64 r_2.Rows, .int .i64 r_2.Cols, .slice B6 r_2.Cells.length c6], 3⟩, ⟨B6, 83, (r_2.Cells.flatMap enc_Dyadic), c6 * 5⟩, ⟨B7, 83, (r_4.Cells.flatMap enc_Dyadic), c7 * 5⟩] [⟨B, (c.Gates.flatMap enc_Gate)⟩] := hS14
    refine sq 32 rfl rfl (Y_move (v := .tuple #[.agg #[.int .i64 r_4.Rows, .int .i64 r_4.Cols, .slice B7 r_4.Cells.length c7], .bool r_5]) rfl rfl) ?_
    refine sq 36 rfl rfl (Y_extract (v := .agg #[.int .i64 r_4.Rows, .int .i64 r_4.Cols, .slice B7 r_4.Cells.length c7]) rfl rfl rfl) ?_
    refine sq 37 rfl rfl (Y_extract (v := .bool r_5) rfl rfl rfl) ?_
    refine ss0 rfl rfl (Ys_store (i := 1) (s := 3) (B := some ⟨b1, 0, none⟩) (T' := 26) (v := .agg #[.int .i64 r_4.Rows, .int .i64 r_4.Cols, .slice B7 r_4.Cells.length c7]) (vs := [.int .i64 r_4.Rows, .int .i64 r_4.Cols, .slice B7 r_4.Cells.length c7]) (k := 0) (cs' := [.int .i64 r_4.Rows, .int .i64 r_4.Cols, .slice B7 r_4.Cells.length c7]) hS14 k_sz_26_3 rfl (hf1.get 4 1 rfl) rfl rfl rfl rfl rfl (Nat.le_of_ble_eq_true rfl) rfl rfl) ?_
    rintro _ w_10 ⟨rfl, hS15⟩
    have hS15 : ST w0 (bl [⟨B1, 83, (m.Cells.flatMap enc_Dyadic), c2 * 5⟩]) _ [⟨some ⟨b, 0, none⟩, 57, [.int .i64 c.Qubits, .slice B c.Gates.length c1], 2⟩, ⟨some ⟨b1, 0, none⟩, 26, [.int .i64 r_4.Rows, .int .i64 r_4.Cols, .slice B7 r_4.Cells.length c7], 3⟩, ⟨B3, 83, (Cells.flatMap enc_Dyadic), c4 * 5⟩, ⟨some ⟨b2, 0, none⟩, 26, [.int .i64 0, .int .i64 0, .slice none 0 0], 3⟩, ⟨B5, 26, [.int .i64 r_2.Rows, .int .i64 r_2.Cols, .slice B6 r_2.Cells.length c6], 3⟩, ⟨B6, 83, (r_2.Cells.flatMap enc_Dyadic), c6 * 5⟩, ⟨B7, 83, (r_4.Cells.flatMap enc_Dyadic), c7 * 5⟩] [⟨B, (c.Gates.flatMap enc_Gate)⟩] := hS15
    refine sq 2 rfl rfl (Y_assign (v := .bool r_5) rfl rfl) ?_
    refine rw_nil ?_
    refine cw_region ?_
    refine sq 19 rfl rfl (Y_move (v := .int .i64 i) rfl (hf1.get 8 3 rfl)) ?_
    refine sq 20 rfl rfl (Y_add (k := .i64) (a := i) (b := 1) rfl rfl rfl) ?_
    refine sq 8 rfl rfl (Y_assign (v := .int .i64 (IntKind.i64.wrap (i + 1))) rfl rfl) ?_
    refine rw_nil ?_
    obtain rfl := some_inj hF2
    exact ⟨k_1, Nat.lt_succ_self _, r_5, r_4.Rows, r_4.Cols, r_4.Cells, (IntKind.i64.wrap (i + 1)), B7, c7, (FF.cons rfl (FF.cons (hf1.get 3 0 rfl) (FF.cons (hf1.get 4 1 rfl) (FF.cons (hf1.get 6 2 rfl) (FF.cons rfl FF.nil))))), (hS15.sel [0, 1, 6, 3] rfl rfl), hL1⟩
  · skip
    have hF3 := cf' hb hb1
    refine cw_exit rfl ?_
    obtain rfl := some_inj hF3
    obtain rfl := some_inj hL1
    refine cw_seq ?_
    refine cw_region ?_
    refine sq 38 rfl rfl (Y_loadA (B := some ⟨b1, 0, none⟩) (i := 0) (cs := [.int .i64 Rows, .int .i64 Cols, .slice B3 Cells.length c4]) (vs := [.int .i64 Rows, .int .i64 Cols, .slice B3 Cells.length c4]) k_ag_26 k_sz_26_3 rfl (hf.get 4 2 rfl) (hS4.cf (i := 1) rfl) rfl rfl) ?_
    refine sq 39 rfl rfl (Y_move (v := .bool ok1) rfl (hf.get 2 0 rfl)) ?_
    refine ss0 rfl rfl (Ys_store (i := 3) (s := 3) (B := some ⟨b2, 0, none⟩) (T' := 26) (v := .agg #[.int .i64 Rows, .int .i64 Cols, .slice B3 Cells.length c4]) (vs := [.int .i64 Rows, .int .i64 Cols, .slice B3 Cells.length c4]) (k := 0) (cs' := [.int .i64 Rows, .int .i64 Cols, .slice B3 Cells.length c4]) hS4 k_sz_26_3 rfl (hf.get 6 3 rfl) rfl rfl rfl rfl rfl (Nat.le_of_ble_eq_true rfl) rfl rfl) ?_
    rintro _ w_11 ⟨rfl, hS16⟩
    have hS16 : ST w0 (bl [⟨B1, 83, (m.Cells.flatMap enc_Dyadic), c2 * 5⟩]) _ [⟨some ⟨b, 0, none⟩, 57, [.int .i64 c.Qubits, .slice B c.Gates.length c1], 2⟩, ⟨some ⟨b1, 0, none⟩, 26, [.int .i64 Rows, .int .i64 Cols, .slice B3 Cells.length c4], 3⟩, ⟨B3, 83, (Cells.flatMap enc_Dyadic), c4 * 5⟩, ⟨some ⟨b2, 0, none⟩, 26, [.int .i64 Rows, .int .i64 Cols, .slice B3 Cells.length c4], 3⟩] [⟨B, (c.Gates.flatMap enc_Gate)⟩] := hS16
    refine sq 7 rfl rfl (Y_assign (v := .bool ok1) rfl rfl) ?_
    refine rw_nil ?_
    refine cw_ret ?_
    obtain ⟨rfl, rfl⟩ := pr2 (some_inj hF1)
    exact ret2 Try.results137 (v1 := .agg #[.int .i64 Rows, .int .i64 Cols, .slice B3 Cells.length c4]) (resAt_cellA (B := some ⟨b2, 0, none⟩) (i := 0) (cs := [.int .i64 Rows, .int .i64 Cols, .slice B3 Cells.length c4]) (vs := [.int .i64 Rows, .int .i64 Cols, .slice B3 Cells.length c4]) (hf.get 6 3 rfl) k_ag_26 k_sz_26_3 (hS16.cf (i := 3) rfl) rfl rfl) (v2 := .bool ok1) (resAt_tmp rfl) ⟨B3, c4, rfl, (ST.subR (R' := []) (hS16.sel [2] rfl rfl) (fun _ h => by cases h))⟩

theorem c_impl_OperatorOf (c : TCircuit) (B : Option Addr) (c1 n : Nat) (w0 : World) (hn : c.Gates.length = n) (hS : ST w0 [] w0 [] [⟨B, (c.Gates.flatMap enc_Gate)⟩]) {r_ : TMatrix} {r_1 : Bool} (hF : F_impl_OperatorOf c = some (r_, r_1)) :
    CV Try.prog 65 #[.agg #[.int .i64 c.Qubits, .slice B n c1]] w0 (fun v w' => ∃ (B1 : Option Addr) (c2 : Nat), v = .tuple #[.agg #[.int .i64 r_.Rows, .int .i64 r_.Cols, .slice B1 r_.Cells.length c2], .bool r_1] ∧ ST w0 [] w' [⟨B1, 83, (r_.Cells.flatMap enc_Dyadic), c2 * 5⟩] []) := by
  subst hn
  unfold F_impl_OperatorOf at hF
  refine cv_of_cw 23 Try.func65 rfl Try.ntmps65 rfl ?_
  refine cw_seq ?_
  refine cw_region ?_
  refine ss 1 rfl rfl (Ys_box (T := 57) (v := .agg #[.int .i64 c.Qubits, .slice B c.Gates.length c1]) (cs := [.int .i64 c.Qubits, .slice B c.Gates.length c1]) (m := 2) hS rfl rfl rfl rfl) ?_
  rintro _ w_ ⟨b, rfl, hS1⟩
  refine ss 2 rfl rfl (Ys_alloc (T := 26) (cs := [.int .i64 0, .int .i64 0, .slice none 0 0]) (m := 3) hS1 k_zero_26 rfl rfl rfl) ?_
  rintro _ w_1 ⟨b1, rfl, hS2⟩
  have hS2 : ST w0 [] _ [⟨some ⟨b, 0, none⟩, 57, [.int .i64 c.Qubits, .slice B c.Gates.length c1], 2⟩, ⟨some ⟨b1, 0, none⟩, 26, [.int .i64 0, .int .i64 0, .slice none 0 0], 3⟩] [⟨B, (c.Gates.flatMap enc_Gate)⟩] := hS2
  refine sq 3 rfl rfl (Y_assign (v := .bool false) rfl rfl) ?_
  refine rw_nil ?_
  refine cw_seq ?_
  refine cw_seq ?_
  refine cw_region ?_
  refine sq 6 rfl rfl (Y_loadA (B := some ⟨b, 0, none⟩) (i := 0) (cs := [.int .i64 c.Qubits, .slice B c.Gates.length c1]) (vs := [.int .i64 c.Qubits, .slice B c.Gates.length c1]) k_ag_57 k_sz_57_2 rfl rfl (hS2.cf (i := 0) rfl) rfl rfl) ?_
  obtain ⟨r_2, hc, hF⟩ := bind_inv hF
  refine sc 7 rfl rfl (Yc_func (g := 136) (vs := [.agg #[.int .i64 c.Qubits, .slice B c.Gates.length c1]]) k_call_136 rfl (mc rfl mn) (c_impl_IsValidCircuit c B c1 c.Gates.length _ rfl (hS2.inn0 [(true, 0)] rfl) hc)) ?_
  rintro _ w_2 ⟨rfl, hd⟩
  have hS3 := hS2.out00 hd
  have hS3 : ST w0 [] _ [⟨some ⟨b, 0, none⟩, 57, [.int .i64 c.Qubits, .slice B c.Gates.length c1], 2⟩, ⟨some ⟨b1, 0, none⟩, 26, [.int .i64 0, .int .i64 0, .slice none 0 0], 3⟩] [⟨B, (c.Gates.flatMap enc_Gate)⟩] := hS3
  refine sq 8 rfl rfl (Y_not (p := r_2) rfl rfl) ?_
  refine rw_nil ?_
  refine cw_cond (b := (!r_2)) rfl (fun hb => ?_) (fun hb => ?_)
  · skip
    have hF1 := ct hF hb
    refine cw_seq ?_
    refine cw_region ?_
    refine sq 9 rfl rfl (Y_buildS (zs := [.int .i64 0, .int .i64 0, .slice none 0 0]) (vs := []) (cs := [.int .i64 0, .int .i64 0, .slice none 0 0]) k_pl_26 k_zero_26 rfl mpn rfl) ?_
    refine ss0 rfl rfl (Ys_store (i := 1) (s := 3) (B := some ⟨b1, 0, none⟩) (T' := 26) (v := .agg #[.int .i64 0, .int .i64 0, .slice none 0 0]) (vs := [.int .i64 0, .int .i64 0, .slice none 0 0]) (k := 0) (cs' := [.int .i64 0, .int .i64 0, .slice none 0 0]) hS3 k_sz_26_3 rfl rfl rfl rfl rfl rfl rfl (Nat.le_of_ble_eq_true rfl) rfl rfl) ?_
    rintro _ w_3 ⟨rfl, hS4⟩
    have hS4 : ST w0 [] _ [⟨some ⟨b, 0, none⟩, 57, [.int .i64 c.Qubits, .slice B c.Gates.length c1], 2⟩, ⟨some ⟨b1, 0, none⟩, 26, [.int .i64 0, .int .i64 0, .slice none 0 0], 3⟩] [⟨B, (c.Gates.flatMap enc_Gate)⟩] := hS4
    refine sq 3 rfl rfl (Y_assign (v := .bool false) rfl rfl) ?_
    refine rw_nil ?_
    refine cw_ret ?_
    have hS5 := hS4.addNil 83
    obtain ⟨rfl, rfl⟩ := pr2 (some_inj hF1)
    exact ret2 Try.results65 (v1 := .agg #[.int .i64 0, .int .i64 0, .slice none 0 0]) (resAt_cellA (B := some ⟨b1, 0, none⟩) (i := 0) (cs := [.int .i64 0, .int .i64 0, .slice none 0 0]) (vs := [.int .i64 0, .int .i64 0, .slice none 0 0]) rfl k_ag_26 k_sz_26_3 (hS5.cf (i := 1) rfl) rfl rfl) (v2 := .bool false) (resAt_tmp rfl) ⟨none, 0, rfl, (ST.subR (R' := []) (hS5.sel [2] rfl rfl) (fun _ h => by cases h))⟩
  · skip
    have hF2 := cf' hF hb
    refine cw_skip ?_
    refine cw_seq ?_
    refine cw_region ?_
    refine sq 11 rfl rfl (Y_fieldAddr (B := some ⟨b, 0, none⟩) (i := 0) (s := 0) k_fd_57_0_0_3 k_sz_3_1 rfl rfl) ?_
    refine sq 12 rfl rfl (Y_load1 (B := some ⟨b, 0, none⟩) (i := 0) (cs := [.int .i64 c.Qubits, .slice B c.Gates.length c1]) (v := .int .i64 c.Qubits) k_sc_3 rfl rfl (hS3.cf (i := 0) rfl) rfl) ?_
    obtain ⟨hsh, hF2⟩ := chk_inv hF2
    refine sq 13 rfl rfl (Y_shl (k := .i64) (a := 1) (k' := .i64) (b := c.Qubits) rfl rfl rfl hsh) ?_
    obtain ⟨⟨r_3, r_4⟩, hc1, hF2⟩ := bind_inv hF2
    refine sc 14 rfl rfl (Yc_func (g := 72) (vs := [.int .i64 (shlK .i64 1 c.Qubits)]) k_call_72 rfl (mc rfl mn) (c_impl_IdentityMatrix (shlK .i64 1 c.Qubits) _  (hS3.inn0 [] rfl) hc1)) ?_
    rintro _ w_4 ⟨B2, c3, rfl, hd1⟩
    have hS6 := hS3.out0 hd1
    have hS6 : ST w0 [] _ [⟨some ⟨b, 0, none⟩, 57, [.int .i64 c.Qubits, .slice B c.Gates.length c1], 2⟩, ⟨some ⟨b1, 0, none⟩, 26, [.int .i64 0, .int .i64 0, .slice none 0 0], 3⟩, ⟨B2, 83, (r_3.Cells.flatMap enc_Dyadic), c3 * 5⟩] [⟨B, (c.Gates.flatMap enc_Gate)⟩] := hS6
    refine sq 10 rfl rfl (Y_move (v := .tuple #[.agg #[.int .i64 r_3.Rows, .int .i64 r_3.Cols, .slice B2 r_3.Cells.length c3], .bool r_4]) rfl rfl) ?_
    refine sq 15 rfl rfl (Y_extract (v := .agg #[.int .i64 r_3.Rows, .int .i64 r_3.Cols, .slice B2 r_3.Cells.length c3]) rfl rfl rfl) ?_
    refine sq 16 rfl rfl (Y_extract (v := .bool r_4) rfl rfl rfl) ?_
    refine ss 4 rfl rfl (Ys_alloc (T := 26) (cs := [.int .i64 0, .int .i64 0, .slice none 0 0]) (m := 3) hS6 k_zero_26 rfl rfl rfl) ?_
    rintro _ w_5 ⟨b2, rfl, hS7⟩
    have hS7 : ST w0 [] _ [⟨some ⟨b, 0, none⟩, 57, [.int .i64 c.Qubits, .slice B c.Gates.length c1], 2⟩, ⟨some ⟨b1, 0, none⟩, 26, [.int .i64 0, .int .i64 0, .slice none 0 0], 3⟩, ⟨B2, 83, (r_3.Cells.flatMap enc_Dyadic), c3 * 5⟩, ⟨some ⟨b2, 0, none⟩, 26, [.int .i64 0, .int .i64 0, .slice none 0 0], 3⟩] [⟨B, (c.Gates.flatMap enc_Gate)⟩] := hS7
    refine ss0 rfl rfl (Ys_store (i := 3) (s := 3) (B := some ⟨b2, 0, none⟩) (T' := 26) (v := .agg #[.int .i64 r_3.Rows, .int .i64 r_3.Cols, .slice B2 r_3.Cells.length c3]) (vs := [.int .i64 r_3.Rows, .int .i64 r_3.Cols, .slice B2 r_3.Cells.length c3]) (k := 0) (cs' := [.int .i64 r_3.Rows, .int .i64 r_3.Cols, .slice B2 r_3.Cells.length c3]) hS7 k_sz_26_3 rfl rfl rfl rfl rfl rfl rfl (Nat.le_of_ble_eq_true rfl) rfl rfl) ?_
    rintro _ w_6 ⟨rfl, hS8⟩
    have hS8 : ST w0 [] _ [⟨some ⟨b, 0, none⟩, 57, [.int .i64 c.Qubits, .slice B c.Gates.length c1], 2⟩, ⟨some ⟨b1, 0, none⟩, 26, [.int .i64 0, .int .i64 0, .slice none 0 0], 3⟩, ⟨B2, 83, (r_3.Cells.flatMap enc_Dyadic), c3 * 5⟩, ⟨some ⟨b2, 0, none⟩, 26, [.int .i64 r_3.Rows, .int .i64 r_3.Cols, .slice B2 r_3.Cells.length c3], 3⟩] [⟨B, (c.Gates.flatMap enc_Gate)⟩] := hS8
    refine sq 5 rfl rfl (Y_assign (v := .bool r_4) rfl rfl) ?_
    refine rw_nil ?_
    refine cw_seq ?_
    refine cw_region ?_
    refine sq 17 rfl rfl (Y_loadA (B := some ⟨b, 0, none⟩) (i := 0) (cs := [.int .i64 c.Qubits, .slice B c.Gates.length c1]) (vs := [.int .i64 c.Qubits, .slice B c.Gates.length c1]) k_ag_57 k_sz_57_2 rfl rfl (hS8.cf (i := 0) rfl) rfl rfl) ?_
    refine sq 18 rfl rfl (Y_loadA (B := some ⟨b2, 0, none⟩) (i := 0) (cs := [.int .i64 r_3.Rows, .int .i64 r_3.Cols, .slice B2 r_3.Cells.length c3]) (vs := [.int .i64 r_3.Rows, .int .i64 r_3.Cols, .slice B2 r_3.Cells.length c3]) k_ag_26 k_sz_26_3 rfl rfl (hS8.cf (i := 3) rfl) rfl rfl) ?_
    refine sq 19 rfl rfl (Y_move (v := .bool r_4) rfl rfl) ?_
    obtain ⟨⟨r_5, r_6⟩, hc2, hF2⟩ := bind_inv hF2
    refine sc 20 rfl rfl (Yc_func (g := 137) (vs := [.agg #[.int .i64 c.Qubits, .slice B c.Gates.length c1], .agg #[.int .i64 r_3.Rows, .int .i64 r_3.Cols, .slice B2 r_3.Cells.length c3], .bool r_4]) k_call_137 rfl (mc rfl (mc rfl (mc rfl mn))) (c_impl_applied c r_3 r_4 B c1 c.Gates.length B2 c3 r_3.Cells.length _ rfl rfl (hS8.inn [false, false, true, false] rfl [(true, 0)] rfl) hc2)) ?_
    rintro _ w_7 ⟨B3, c4, rfl, hd2⟩
    have hS9 := hS8.out [false, false, true, false] rfl hd2
    have hS9 : ST w0 [] _ [⟨some ⟨b, 0, none⟩, 57, [.int .i64 c.Qubits, .slice B c.Gates.length c1], 2⟩, ⟨some ⟨b1, 0, none⟩, 26, [.int .i64 0, .int .i64 0, .slice none 0 0], 3⟩, ⟨some ⟨b2, 0, none⟩, 26, [.int .i64 r_3.Rows, .int .i64 r_3.Cols, .slice B2 r_3.Cells.length c3], 3⟩, ⟨B3, 83, (r_5.Cells.flatMap enc_Dyadic), c4 * 5⟩] [⟨B, (c.Gates.flatMap enc_Gate)⟩] := hS9
    refine sq 21 rfl rfl (Y_extract (v := .agg #[.int .i64 r_5.Rows, .int .i64 r_5.Cols, .slice B3 r_5.Cells.length c4]) rfl rfl rfl) ?_
    refine sq 22 rfl rfl (Y_extract (v := .bool r_6) rfl rfl rfl) ?_
    refine ss0 rfl rfl (Ys_store (i := 1) (s := 3) (B := some ⟨b1, 0, none⟩) (T' := 26) (v := .agg #[.int .i64 r_5.Rows, .int .i64 r_5.Cols, .slice B3 r_5.Cells.length c4]) (vs := [.int .i64 r_5.Rows, .int .i64 r_5.Cols, .slice B3 r_5.Cells.length c4]) (k := 0) (cs' := [.int .i64 r_5.Rows, .int .i64 r_5.Cols, .slice B3 r_5.Cells.length c4]) hS9 k_sz_26_3 rfl rfl rfl rfl rfl rfl rfl (Nat.le_of_ble_eq_true rfl) rfl rfl) ?_
    rintro _ w_8 ⟨rfl, hS10⟩
    have hS10 : ST w0 [] _ [⟨some ⟨b, 0, none⟩, 57, [.int .i64 c.Qubits, .slice B c.Gates.length c1], 2⟩, ⟨some ⟨b1, 0, none⟩, 26, [.int .i64 r_5.Rows, .int .i64 r_5.Cols, .slice B3 r_5.Cells.length c4], 3⟩, ⟨some ⟨b2, 0, none⟩, 26, [.int .i64 r_3.Rows, .int .i64 r_3.Cols, .slice B2 r_3.Cells.length c3], 3⟩, ⟨B3, 83, (r_5.Cells.flatMap enc_Dyadic), c4 * 5⟩] [⟨B, (c.Gates.flatMap enc_Gate)⟩] := hS10
    refine sq 3 rfl rfl (Y_assign (v := .bool r_6) rfl rfl) ?_
    refine rw_nil ?_
    refine cw_ret ?_
    obtain ⟨rfl, rfl⟩ := pr2 (some_inj hF2)
    exact ret2 Try.results65 (v1 := .agg #[.int .i64 r_5.Rows, .int .i64 r_5.Cols, .slice B3 r_5.Cells.length c4]) (resAt_cellA (B := some ⟨b1, 0, none⟩) (i := 0) (cs := [.int .i64 r_5.Rows, .int .i64 r_5.Cols, .slice B3 r_5.Cells.length c4]) (vs := [.int .i64 r_5.Rows, .int .i64 r_5.Cols, .slice B3 r_5.Cells.length c4]) rfl k_ag_26 k_sz_26_3 (hS10.cf (i := 1) rfl) rfl rfl) (v2 := .bool r_6) (resAt_tmp rfl) ⟨B3, c4, rfl, (ST.subR (R' := []) (hS10.sel [3] rfl rfl) (fun _ h => by cases h))⟩

theorem c_laws_FnExactOperatorOf (aC : TCircuit) (B : Option Addr) (c n : Nat) (w0 : World) (hn : aC.Gates.length = n) (hS : ST w0 [] w0 [] [⟨B, (aC.Gates.flatMap enc_Gate)⟩]) {r_ : Bool} (hF : F_laws_FnExactOperatorOf aC = some r_) :
    CV Try.prog 13 #[.agg #[.int .i64 aC.Qubits, .slice B n c]] w0 (fun v w' => v = .bool r_ ∧ ST w0 [] w' [] []) := by
  subst hn
  unfold F_laws_FnExactOperatorOf at hF
  refine cv_of_cw 96 Try.func13 rfl Try.ntmps13 rfl ?_
  refine cw_seq ?_
  refine cw_region ?_
  refine ss 1 rfl rfl (Ys_box (T := 41) (v := .agg #[.int .i64 aC.Qubits, .slice B aC.Gates.length c]) (cs := [.int .i64 aC.Qubits, .slice B aC.Gates.length c]) (m := 2) hS rfl rfl rfl rfl) ?_
  rintro _ w_ ⟨b, rfl, hS1⟩
  refine sq 2 rfl rfl (Y_assign (v := .bool false) rfl rfl) ?_
  refine rw_nil ?_
  refine cw_seq ?_
  refine cw_region ?_
  refine sq 3 rfl rfl (Y_assign (v := .int .i64 1048576) rfl rfl) ?_
  refine rw_nil ?_
  refine cw_seq ?_
  refine cw_region ?_
  refine sq 14 rfl rfl (Y_loadA (B := some ⟨b, 0, none⟩) (i := 0) (cs := [.int .i64 aC.Qubits, .slice B aC.Gates.length c]) (vs := [.int .i64 aC.Qubits, .slice B aC.Gates.length c]) k_ag_41 k_sz_41_2 rfl rfl (hS1.cf (i := 0) rfl) rfl rfl) ?_
  refine sq 15 rfl rfl (Y_move (v := .int .i64 1048576) rfl rfl) ?_
  obtain ⟨r_1, hc, hF⟩ := bind_inv hF
  refine sc 16 rfl rfl (Yc_func (g := 24) (vs := [.agg #[.int .i64 aC.Qubits, .slice B aC.Gates.length c], .int .i64 1048576]) k_call_24 rfl (mc rfl (mc rfl mn)) (c_laws_szCircuit aC 1048576 B c aC.Gates.length _ rfl (hS1.inn0 [(true, 0)] rfl) hc)) ?_
  rintro _ w_1 ⟨rfl, hd⟩
  have hS2 := hS1.out00 hd
  refine sq 3 rfl rfl (Y_assign (v := .int .i64 r_1) rfl rfl) ?_
  refine rw_nil ?_
  refine cw_seq ?_
  refine cw_seq ?_
  refine cw_region ?_
  refine sq 17 rfl rfl (Y_move (v := .int .i64 r_1) rfl rfl) ?_
  refine sq 18 rfl rfl (Y_lt (k := .i64) (a := r_1) (b := 0) rfl rfl rfl) ?_
  refine rw_nil ?_
  refine cw_cond (b := (decide (r_1 < 0))) rfl (fun hb => ?_) (fun hb => ?_)
  · skip
    have hF1 := ct hF hb
    refine cw_seq ?_
    refine cw_region ?_
    refine sq 2 rfl rfl (Y_assign (v := .bool true) rfl rfl) ?_
    refine rw_nil ?_
    refine cw_ret ?_
    obtain rfl := some_inj hF1
    exact ret1 Try.results13 (v1 := .bool true) (resAt_tmp rfl) ⟨rfl, (ST.subR (R' := []) (hS2.sel [] rfl rfl) (fun _ h => by cases h))⟩
  · skip
    have hF2 := cf' hF hb
    refine cw_skip ?_
    refine cw_seq ?_
    refine cw_region ?_
    refine sq 20 rfl rfl (Y_loadA (B := some ⟨b, 0, none⟩) (i := 0) (cs := [.int .i64 aC.Qubits, .slice B aC.Gates.length c]) (vs := [.int .i64 aC.Qubits, .slice B aC.Gates.length c]) k_ag_41 k_sz_41_2 rfl rfl (hS2.cf (i := 0) rfl) rfl rfl) ?_
    obtain ⟨r_2, hc1, hF2⟩ := bind_inv hF2
    refine sc 21 rfl rfl (Yc_func (g := 28) (vs := [.agg #[.int .i64 aC.Qubits, .slice B aC.Gates.length c]]) k_call_28 rfl (mc rfl mn) (c_laws_toCircuit aC B c aC.Gates.length _ rfl (hS2.inn0 [(true, 0)] rfl) hc1)) ?_
    rintro _ w_2 ⟨B1, c1, rfl, hd1⟩
    have hS3 := hS2.out0 hd1
    have hS3 : ST w0 [] _ [⟨some ⟨b, 0, none⟩, 41, [.int .i64 aC.Qubits, .slice B aC.Gates.length c], 2⟩, ⟨B1, 171, (r_2.Gates.flatMap enc_Gate), c1 * 3⟩] [⟨B, (aC.Gates.flatMap enc_Gate)⟩] := hS3
    obtain ⟨⟨r_3, r_4⟩, hc2, hF2⟩ := bind_inv hF2
    refine sc 22 rfl rfl (Yc_func (g := 64) (vs := [.agg #[.int .i64 r_2.Qubits, .slice B1 r_2.Gates.length c1]]) k_call_64 rfl (mc rfl mn) (c_spec_OperatorOf r_2 B1 c1 r_2.Gates.length _ rfl (hS3.inn0 [(false, 1)] rfl) hc2)) ?_
    rintro _ w_3 ⟨B2, c2, rfl, hd2⟩
    have hS4 := hS3.out0 hd2
    have hS4 : ST w0 [] _ [⟨some ⟨b, 0, none⟩, 41, [.int .i64 aC.Qubits, .slice B aC.Gates.length c], 2⟩, ⟨B1, 171, (r_2.Gates.flatMap enc_Gate), c1 * 3⟩, ⟨B2, 83, (r_3.Cells.flatMap enc_Dyadic), c2 * 5⟩] [⟨B, (aC.Gates.flatMap enc_Gate)⟩] := hS4
    refine sq 19 rfl rfl (Y_move (v := .tuple #[.agg #[.int .i64 r_3.Rows, .int .i64 r_3.Cols, .slice B2 r_3.Cells.length c2], .bool r_4]) rfl rfl) ?_
    refine sq 23 rfl rfl (Y_extract (v := .agg #[.int .i64 r_3.Rows, .int .i64 r_3.Cols, .slice B2 r_3.Cells.length c2]) rfl rfl rfl) ?_
    refine sq 24 rfl rfl (Y_extract (v := .bool r_4) rfl rfl rfl) ?_
    refine ss 4 rfl rfl (Ys_alloc (T := 26) (cs := [.int .i64 0, .int .i64 0, .slice none 0 0]) (m := 3) hS4 k_zero_26 rfl rfl rfl) ?_
    rintro _ w_4 ⟨b1, rfl, hS5⟩
    have hS5 : ST w0 [] _ [⟨some ⟨b, 0, none⟩, 41, [.int .i64 aC.Qubits, .slice B aC.Gates.length c], 2⟩, ⟨B1, 171, (r_2.Gates.flatMap enc_Gate), c1 * 3⟩, ⟨B2, 83, (r_3.Cells.flatMap enc_Dyadic), c2 * 5⟩, ⟨some ⟨b1, 0, none⟩, 26, [.int .i64 0, .int .i64 0, .slice none 0 0], 3⟩] [⟨B, (aC.Gates.flatMap enc_Gate)⟩] := hS5
    refine ss0 rfl rfl (Ys_store (i := 3) (s := 3) (B := some ⟨b1, 0, none⟩) (T' := 26) (v := .agg #[.int .i64 r_3.Rows, .int .i64 r_3.Cols, .slice B2 r_3.Cells.length c2]) (vs := [.int .i64 r_3.Rows, .int .i64 r_3.Cols, .slice B2 r_3.Cells.length c2]) (k := 0) (cs' := [.int .i64 r_3.Rows, .int .i64 r_3.Cols, .slice B2 r_3.Cells.length c2]) hS5 k_sz_26_3 rfl rfl rfl rfl rfl rfl rfl (Nat.le_of_ble_eq_true rfl) rfl rfl) ?_
    rintro _ w_5 ⟨rfl, hS6⟩
    have hS6 : ST w0 [] _ [⟨some ⟨b, 0, none⟩, 41, [.int .i64 aC.Qubits, .slice B aC.Gates.length c], 2⟩, ⟨B1, 171, (r_2.Gates.flatMap enc_Gate), c1 * 3⟩, ⟨B2, 83, (r_3.Cells.flatMap enc_Dyadic), c2 * 5⟩, ⟨some ⟨b1, 0, none⟩, 26, [.int .i64 r_3.Rows, .int .i64 r_3.Cols, .slice B2 r_3.Cells.length c2], 3⟩] [⟨B, (aC.Gates.flatMap enc_Gate)⟩] := hS6
    refine sq 5 rfl rfl (Y_assign (v := .bool r_4) rfl rfl) ?_
    refine rw_nil ?_
    refine cw_seq ?_
    refine cw_region ?_
    refine sq 25 rfl rfl (Y_loadA (B := some ⟨b, 0, none⟩) (i := 0) (cs := [.int .i64 aC.Qubits, .slice B aC.Gates.length c]) (vs := [.int .i64 aC.Qubits, .slice B aC.Gates.length c]) k_ag_41 k_sz_41_2 rfl rfl (hS6.cf (i := 0) rfl) rfl rfl) ?_
    obtain ⟨r_5, hc3, hF2⟩ := bind_inv hF2
    refine sc 26 rfl rfl (Yc_func (g := 28) (vs := [.agg #[.int .i64 aC.Qubits, .slice B aC.Gates.length c]]) k_call_28 rfl (mc rfl mn) (c_laws_toCircuit aC B c aC.Gates.length _ rfl (hS6.inn0 [(true, 0)] rfl) hc3)) ?_
    rintro _ w_6 ⟨B3, c3, rfl, hd3⟩
    have hS7 := hS6.out0 hd3
    have hS7 : ST w0 [] _ [⟨some ⟨b, 0, none⟩, 41, [.int .i64 aC.Qubits, .slice B aC.Gates.length c], 2⟩, ⟨B1, 171, (r_2.Gates.flatMap enc_Gate), c1 * 3⟩, ⟨B2, 83, (r_3.Cells.flatMap enc_Dyadic), c2 * 5⟩, ⟨some ⟨b1, 0, none⟩, 26, [.int .i64 r_3.Rows, .int .i64 r_3.Cols, .slice B2 r_3.Cells.length c2], 3⟩, ⟨B3, 171, (r_5.Gates.flatMap enc_Gate), c3 * 3⟩] [⟨B, (aC.Gates.flatMap enc_Gate)⟩] := hS7
    refine ss 6 rfl rfl (Ys_alloc (T := 57) (cs := [.int .i64 0, .slice none 0 0]) (m := 2) hS7 k_zero_57 rfl rfl rfl) ?_
    rintro _ w_7 ⟨b2, rfl, hS8⟩
    have hS8 : ST w0 [] _ [⟨some ⟨b, 0, none⟩, 41, [.int .i64 aC.Qubits, .slice B aC.Gates.length c], 2⟩, ⟨B1, 171, (r_2.Gates.flatMap enc_Gate), c1 * 3⟩, ⟨B2, 83, (r_3.Cells.flatMap enc_Dyadic), c2 * 5⟩, ⟨some ⟨b1, 0, none⟩, 26, [.int .i64 r_3.Rows, .int .i64 r_3.Cols, .slice B2 r_3.Cells.length c2], 3⟩, ⟨B3, 171, (r_5.Gates.flatMap enc_Gate), c3 * 3⟩, ⟨some ⟨b2, 0, none⟩, 57, [.int .i64 0, .slice none 0 0], 2⟩] [⟨B, (aC.Gates.flatMap enc_Gate)⟩] := hS8
    refine ss0 rfl rfl (Ys_store (i := 5) (s := 2) (B := some ⟨b2, 0, none⟩) (T' := 57) (v := .agg #[.int .i64 r_5.Qubits, .slice B3 r_5.Gates.length c3]) (vs := [.int .i64 r_5.Qubits, .slice B3 r_5.Gates.length c3]) (k := 0) (cs' := [.int .i64 r_5.Qubits, .slice B3 r_5.Gates.length c3]) hS8 k_sz_57_2 rfl rfl rfl rfl rfl rfl rfl (Nat.le_of_ble_eq_true rfl) rfl rfl) ?_
    rintro _ w_8 ⟨rfl, hS9⟩
    have hS9 : ST w0 [] _ [⟨some ⟨b, 0, none⟩, 41, [.int .i64 aC.Qubits, .slice B aC.Gates.length c], 2⟩, ⟨B1, 171, (r_2.Gates.flatMap enc_Gate), c1 * 3⟩, ⟨B2, 83, (r_3.Cells.flatMap enc_Dyadic), c2 * 5⟩, ⟨some ⟨b1, 0, none⟩, 26, [.int .i64 r_3.Rows, .int .i64 r_3.Cols, .slice B2 r_3.Cells.length c2], 3⟩, ⟨B3, 171, (r_5.Gates.flatMap enc_Gate), c3 * 3⟩, ⟨some ⟨b2, 0, none⟩, 57, [.int .i64 r_5.Qubits, .slice B3 r_5.Gates.length c3], 2⟩] [⟨B, (aC.Gates.flatMap enc_Gate)⟩] := hS9
    refine rw_nil ?_
    refine cw_seq ?_
    refine cw_region ?_
    refine sq 28 rfl rfl (Y_loadA (B := some ⟨b2, 0, none⟩) (i := 0) (cs := [.int .i64 r_5.Qubits, .slice B3 r_5.Gates.length c3]) (vs := [.int .i64 r_5.Qubits, .slice B3 r_5.Gates.length c3]) k_ag_57 k_sz_57_2 rfl rfl (hS9.cf (i := 5) rfl) rfl rfl) ?_
    obtain ⟨⟨r_6, r_7⟩, hc4, hF2⟩ := bind_inv hF2
    refine sc 29 rfl rfl (Yc_func (g := 65) (vs := [.agg #[.int .i64 r_5.Qubits, .slice B3 r_5.Gates.length c3]]) k_call_65 rfl (mc rfl mn) (c_impl_OperatorOf r_5 B3 c3 r_5.Gates.length _ rfl (hS9.inn0 [(false, 4)] rfl) hc4)) ?_
    rintro _ w_9 ⟨B4, c4, rfl, hd4⟩
    have hS10 := hS9.out0 hd4
    have hS10 : ST w0 [] _ [⟨some ⟨b, 0, none⟩, 41, [.int .i64 aC.Qubits, .slice B aC.Gates.length c], 2⟩, ⟨B1, 171, (r_2.Gates.flatMap enc_Gate), c1 * 3⟩, ⟨B2, 83, (r_3.Cells.flatMap enc_Dyadic), c2 * 5⟩, ⟨some ⟨b1, 0, none⟩, 26, [.int .i64 r_3.Rows, .int .i64 r_3.Cols, .slice B2 r_3.Cells.length c2], 3⟩, ⟨B3, 171, (r_5.Gates.flatMap enc_Gate), c3 * 3⟩, ⟨some ⟨b2, 0, none⟩, 57, [.int .i64 r_5.Qubits, .slice B3 r_5.Gates.length c3], 2⟩, ⟨B4, 83, (r_6.Cells.flatMap enc_Dyadic), c4 * 5⟩] [⟨B, (aC.Gates.flatMap enc_Gate)⟩] := hS10
    refine sq 27 rfl rfl (Y_move (v := .tuple #[.agg #[.int .i64 r_6.Rows, .int .i64 r_6.Cols, .slice B4 r_6.Cells.length c4], .bool r_7]) rfl rfl) ?_
    refine sq 30 rfl rfl (Y_extract (v := .agg #[.int .i64 r_6.Rows, .int .i64 r_6.Cols, .slice B4 r_6.Cells.length c4]) rfl rfl rfl) ?_
    refine sq 31 rfl rfl (Y_extract (v := .bool r_7) rfl rfl rfl) ?_
    refine ss 7 rfl rfl (Ys_alloc (T := 26) (cs := [.int .i64 0, .int .i64 0, .slice none 0 0]) (m := 3) hS10 k_zero_26 rfl rfl rfl) ?_
    rintro _ w_10 ⟨b3, rfl, hS11⟩
    have hS11 : ST w0 [] _ [⟨some ⟨b, 0, none⟩, 41, [.int .i64 aC.Qubits, .slice B aC.Gates.length c], 2⟩, ⟨B1, 171, (r_2.Gates.flatMap enc_Gate), c1 * 3⟩, ⟨B2, 83, (r_3.Cells.flatMap enc_Dyadic), c2 * 5⟩, ⟨some ⟨b1, 0, none⟩, 26, [.int .i64 r_3.Rows, .int .i64 r_3.Cols, .slice B2 r_3.Cells.length c2], 3⟩, ⟨B3, 171, (r_5.Gates.flatMap enc_Gate), c3 * 3⟩, ⟨some ⟨b2, 0, none⟩, 57, [.int .i64 r_5.Qubits, .slice B3 r_5.Gates.length c3], 2⟩, ⟨B4, 83, (r_6.Cells.flatMap enc_Dyadic), c4 * 5⟩, ⟨some ⟨b3, 0, none⟩, 26, [.int .i64 0, .int .i64 0, .slice none 0 0], 3⟩] [⟨B, (aC.Gates.flatMap enc_Gate)⟩] := hS11
    refine ss0 rfl rfl (Ys_store (i := 7) (s := 3) (B := some ⟨b3, 0, none⟩) (T' := 26) (v := .agg #[.int .i64 r_6.Rows, .int .i64 r_6.Cols, .slice B4 r_6.Cells.length c4]) (vs := [.int .i64 r_6.Rows, .int .i64 r_6.Cols, .slice B4 r_6.Cells.length c4]) (k := 0) (cs' := [.int .i64 r_6.Rows, .int .i64 r_6.Cols, .slice B4 r_6.Cells.length c4]) hS11 k_sz_26_3 rfl rfl rfl rfl rfl rfl rfl (Nat.le_of_ble_eq_true rfl) rfl rfl) ?_
    rintro _ w_11 ⟨rfl, hS12⟩
    have hS12 : ST w0 [] _ [⟨some ⟨b, 0, none⟩, 41, [.int .i64 aC.Qubits, .slice B aC.Gates.length c], 2⟩, ⟨B1, 171, (r_2.Gates.flatMap enc_Gate), c1 * 3⟩, ⟨B2, 83, (r_3.Cells.flatMap enc_Dyadic), c2 * 5⟩, ⟨some ⟨b1, 0, none⟩, 26, [.int .i64 r_3.Rows, .int .i64 r_3.Cols, .slice B2 r_3.Cells.length c2], 3⟩, ⟨B3, 171, (r_5.Gates.flatMap enc_Gate), c3 * 3⟩, ⟨some ⟨b2, 0, none⟩, 57, [.int .i64 r_5.Qubits, .slice B3 r_5.Gates.length c3], 2⟩, ⟨B4, 83, (r_6.Cells.flatMap enc_Dyadic), c4 * 5⟩, ⟨some ⟨b3, 0, none⟩, 26, [.int .i64 r_6.Rows, .int .i64 r_6.Cols, .slice B4 r_6.Cells.length c4], 3⟩] [⟨B, (aC.Gates.flatMap enc_Gate)⟩] := hS12
    refine sq 8 rfl rfl (Y_assign (v := .bool r_7) rfl rfl) ?_
    refine rw_nil ?_
    refine cw_seq ?_
    refine cw_seq ?_
    refine cw_region ?_
    refine sq 32 rfl rfl (Y_loadA (B := some ⟨b3, 0, none⟩) (i := 0) (cs := [.int .i64 r_6.Rows, .int .i64 r_6.Cols, .slice B4 r_6.Cells.length c4]) (vs := [.int .i64 r_6.Rows, .int .i64 r_6.Cols, .slice B4 r_6.Cells.length c4]) k_ag_26 k_sz_26_3 rfl rfl (hS12.cf (i := 7) rfl) rfl rfl) ?_
    refine sq 33 rfl rfl (Y_loadA (B := some ⟨b1, 0, none⟩) (i := 0) (cs := [.int .i64 r_3.Rows, .int .i64 r_3.Cols, .slice B2 r_3.Cells.length c2]) (vs := [.int .i64 r_3.Rows, .int .i64 r_3.Cols, .slice B2 r_3.Cells.length c2]) k_ag_26 k_sz_26_3 rfl rfl (hS12.cf (i := 3) rfl) rfl rfl) ?_
    obtain ⟨r_8, hc5, hF2⟩ := bind_inv hF2
    refine sc 34 rfl rfl (Yc_func (g := 18) (vs := [.agg #[.int .i64 r_6.Rows, .int .i64 r_6.Cols, .slice B4 r_6.Cells.length c4], .agg #[.int .i64 r_3.Rows, .int .i64 r_3.Cols, .slice B2 r_3.Cells.length c2]]) k_call_18 rfl (mc rfl (mc rfl mn)) (c_laws_eqMatrix r_6 r_3 B4 c4 r_6.Cells.length B2 c2 r_3.Cells.length _ rfl rfl (hS12.inn0 [(false, 6), (false, 2)] rfl) hc5)) ?_
    rintro _ w_12 ⟨rfl, hd5⟩
    have hS13 := hS12.out00 hd5
    have hS13 : ST w0 [] _ [⟨some ⟨b, 0, none⟩, 41, [.int .i64 aC.Qubits, .slice B aC.Gates.length c], 2⟩, ⟨B1, 171, (r_2.Gates.flatMap enc_Gate), c1 * 3⟩, ⟨B2, 83, (r_3.Cells.flatMap enc_Dyadic), c2 * 5⟩, ⟨some ⟨b1, 0, none⟩, 26, [.int .i64 r_3.Rows, .int .i64 r_3.Cols, .slice B2 r_3.Cells.length c2], 3⟩, ⟨B3, 171, (r_5.Gates.flatMap enc_Gate), c3 * 3⟩, ⟨some ⟨b2, 0, none⟩, 57, [.int .i64 r_5.Qubits, .slice B3 r_5.Gates.length c3], 2⟩, ⟨B4, 83, (r_6.Cells.flatMap enc_Dyadic), c4 * 5⟩, ⟨some ⟨b3, 0, none⟩, 26, [.int .i64 r_6.Rows, .int .i64 r_6.Cols, .slice B4 r_6.Cells.length c4], 3⟩] [⟨B, (aC.Gates.flatMap enc_Gate)⟩] := hS13
    refine sq 35 rfl rfl (Y_not (p := r_8) rfl rfl) ?_
    refine sq 36 rfl rfl (Y_move (v := .bool (!r_8)) rfl rfl) ?_
    refine sgq 37 (B := (!(!r_8))) (v := .bool r_7) rfl rfl (wt_f (gd_of (t := 36) (by kernel_rfl) rfl)) (fun hg => (Y_move (v := .bool r_7) rfl rfl)) ?_
    refine sgq 38 (B := (!(!r_8))) (v := .bool r_4) rfl rfl (wt_f (gd_of (t := 36) (by kernel_rfl) rfl)) (fun hg1 => (Y_move (v := .bool r_4) rfl rfl)) ?_
    refine sgq 39 (B := (!(!r_8))) (v := .bool (!(r_7 == r_4))) rfl rfl (wt_f (gd_of (t := 36) (by kernel_rfl) rfl)) (fun hg2 => (Y_bne (p := r_7) (q := r_4) k_und_4 rfl (gv_of (B := (!(!r_8))) (v := .bool r_7) hg2) (gv_of (B := (!(!r_8))) (v := .bool r_4) hg2))) ?_
    refine sq 40 rfl rfl (Y_or (b := (!r_8)) (z := (!(r_7 == r_4))) rfl rfl rfl rfl) ?_
    refine rw_nil ?_
    refine cw_cond (b := ((!r_8) || (!(r_7 == r_4)))) rfl (fun hb1 => ?_) (fun hb1 => ?_)
    · skip
      have hF3 := ct hF2 hb1
      refine cw_seq ?_
      refine cw_region ?_
      refine sq 2 rfl rfl (Y_assign (v := .bool false) rfl rfl) ?_
      refine rw_nil ?_
      refine cw_ret ?_
      obtain rfl := some_inj hF3
      exact ret1 Try.results13 (v1 := .bool false) (resAt_tmp rfl) ⟨rfl, (ST.subR (R' := []) (hS13.sel [] rfl rfl) (fun _ h => by cases h))⟩
    · skip
      have hF4 := cf' hF2 hb1
      refine cw_skip ?_
      refine cw_seq ?_
      refine cw_seq ?_
      obtain ⟨r_9, hc6, hF4⟩ := bind_inv hF4
      obtain ⟨r_10, hc7, hF4⟩ := bind_inv hF4
      refine ra_start (ST.sel hS13 [0, 1, 2, 3, 4, 5, 6, 7] rfl rfl).fn (by kernel_rfl) ?_
      have hS16 := hS13.drew
      refine ra_q 0 41 (v := .agg #[.int .i64 r_5.Qubits, .slice B3 r_5.Gates.length c3]) rfl rfl rfl (by kernel_rfl) (by kernel_rfl) (by kernel_rfl) (ST.sel hS16 [0, 1, 2, 3, 4, 5, 6, 7] rfl rfl) (fun w' hw' => (Y_loadA (B := some ⟨b2, 0, none⟩) (i := 0) (cs := [.int .i64 r_5.Qubits, .slice B3 r_5.Gates.length c3]) (vs := [.int .i64 r_5.Qubits, .slice B3 r_5.Gates.length c3]) k_ag_57 k_sz_57_2 rfl rfl (ST.cf hw' (i := 5) rfl) rfl rfl)) ?_
      refine ra_q 1 42 (v := .agg #[.int .i64 aC.Qubits, .slice B aC.Gates.length c]) rfl rfl rfl (by kernel_rfl) (by kernel_rfl) (by kernel_rfl) (ST.sel hS16 [0, 1, 2, 3, 4, 5, 6, 7] rfl rfl) (fun w' hw' => (Y_loadA (B := some ⟨b, 0, none⟩) (i := 0) (cs := [.int .i64 aC.Qubits, .slice B aC.Gates.length c]) (vs := [.int .i64 aC.Qubits, .slice B aC.Gates.length c]) k_ag_41 k_sz_41_2 rfl rfl (ST.cf hw' (i := 0) rfl) rfl rfl)) ?_
      refine ra_all (rs := [2]) (by kernel_rfl) rfl ?_
      refine ra_c 43 (i := 2) rfl rfl rfl (Yc_func (g := 28) (vs := [.agg #[.int .i64 aC.Qubits, .slice B aC.Gates.length c]]) k_call_28 rfl (mc rfl mn) (c_laws_toCircuit aC B c aC.Gates.length _ rfl (hS16.inn0 [(true, 0)] rfl) hc6)) ?_ ?_
      · rintro _ w_13 ⟨B5, c5, rfl, hd6⟩
        have hS17 := hS16.out0 hd6
        have hS17 : ST w0 [] _ [⟨some ⟨b, 0, none⟩, 41, [.int .i64 aC.Qubits, .slice B aC.Gates.length c], 2⟩, ⟨B1, 171, (r_2.Gates.flatMap enc_Gate), c1 * 3⟩, ⟨B2, 83, (r_3.Cells.flatMap enc_Dyadic), c2 * 5⟩, ⟨some ⟨b1, 0, none⟩, 26, [.int .i64 r_3.Rows, .int .i64 r_3.Cols, .slice B2 r_3.Cells.length c2], 3⟩, ⟨B3, 171, (r_5.Gates.flatMap enc_Gate), c3 * 3⟩, ⟨some ⟨b2, 0, none⟩, 57, [.int .i64 r_5.Qubits, .slice B3 r_5.Gates.length c3], 2⟩, ⟨B4, 83, (r_6.Cells.flatMap enc_Dyadic), c4 * 5⟩, ⟨some ⟨b3, 0, none⟩, 26, [.int .i64 r_6.Rows, .int .i64 r_6.Cols, .slice B4 r_6.Cells.length c4], 3⟩, ⟨B5, 171, (r_9.Gates.flatMap enc_Gate), c5 * 3⟩] [⟨B, (aC.Gates.flatMap enc_Gate)⟩] := hS17
        refine ⟨(ST.sel hS17 [0, 1, 2, 3, 4, 5, 6, 7] rfl rfl), ?_⟩
        refine ra_all (rs := [3]) (by kernel_rfl) rfl ?_
        refine ra_c 44 (i := 3) rfl rfl rfl (Yc_func (g := 32) (vs := [.agg #[.int .i64 r_5.Qubits, .slice B3 r_5.Gates.length c3], .agg #[.int .i64 r_9.Qubits, .slice B5 r_9.Gates.length c5]]) k_call_32 rfl (mc rfl (mc rfl mn)) (c_laws_eqCircuit r_5 r_9 B3 c3 r_5.Gates.length B5 c5 r_9.Gates.length _ rfl rfl (hS17.inn0 [(false, 4), (false, 8)] rfl) hc7)) ?_ ?_
        · rintro _ w_14 ⟨rfl, hd7⟩
          have hS18 := hS17.out00 hd7
          have hS18 : ST w0 [] _ [⟨some ⟨b, 0, none⟩, 41, [.int .i64 aC.Qubits, .slice B aC.Gates.length c], 2⟩, ⟨B1, 171, (r_2.Gates.flatMap enc_Gate), c1 * 3⟩, ⟨B2, 83, (r_3.Cells.flatMap enc_Dyadic), c2 * 5⟩, ⟨some ⟨b1, 0, none⟩, 26, [.int .i64 r_3.Rows, .int .i64 r_3.Cols, .slice B2 r_3.Cells.length c2], 3⟩, ⟨B3, 171, (r_5.Gates.flatMap enc_Gate), c3 * 3⟩, ⟨some ⟨b2, 0, none⟩, 57, [.int .i64 r_5.Qubits, .slice B3 r_5.Gates.length c3], 2⟩, ⟨B4, 83, (r_6.Cells.flatMap enc_Dyadic), c4 * 5⟩, ⟨some ⟨b3, 0, none⟩, 26, [.int .i64 r_6.Rows, .int .i64 r_6.Cols, .slice B4 r_6.Cells.length c4], 3⟩, ⟨B5, 171, (r_9.Gates.flatMap enc_Gate), c5 * 3⟩] [⟨B, (aC.Gates.flatMap enc_Gate)⟩] := hS18
          refine ⟨(ST.sel hS18 [0, 1, 2, 3, 4, 5, 6, 7] rfl rfl), ?_⟩
          refine ra_q 4 45 (v := .bool (!r_10)) rfl rfl rfl (by kernel_rfl) (by kernel_rfl) (by kernel_rfl) (ST.sel hS18 [0, 1, 2, 3, 4, 5, 6, 7] rfl rfl) (fun w' hw' => (Y_not (p := r_10) rfl rfl)) ?_
          refine ra_done (by kernel_rfl) ?_
          refine cw_cond (b := (!r_10)) rfl (fun hb2 => ?_) (fun hb2 => ?_)
          · skip
            have hF5 := ct hF4 hb2
            refine cw_seq ?_
            refine cw_region ?_
            refine sq 2 rfl rfl (Y_assign (v := .bool false) rfl rfl) ?_
            refine rw_nil ?_
            refine cw_ret ?_
            obtain rfl := some_inj hF5
            exact ret1 Try.results13 (v1 := .bool false) (resAt_tmp rfl) ⟨rfl, (ST.subR (R' := []) (hS18.sel [] rfl rfl) (fun _ h => by cases h))⟩
          · skip
            have hF6 := cf' hF4 hb2
            refine cw_skip ?_
            refine cw_seq ?_
            refine cw_region ?_
            refine sq 9 rfl rfl (Y_assign (v := .int .i64 1) rfl rfl) ?_
            refine rw_nil ?_
            refine cw_seq ?_
            refine cw_region ?_
            refine sq 46 rfl rfl (Y_loadA (B := some ⟨b2, 0, none⟩) (i := 0) (cs := [.int .i64 r_5.Qubits, .slice B3 r_5.Gates.length c3]) (vs := [.int .i64 r_5.Qubits, .slice B3 r_5.Gates.length c3]) k_ag_57 k_sz_57_2 rfl rfl (hS18.cf (i := 5) rfl) rfl rfl) ?_
            refine sq 47 rfl rfl (Y_move (v := .int .i64 1) rfl rfl) ?_
            obtain ⟨⟨r_11, m⟩, hc8, hF6⟩ := bind_inv hF6
            refine sc 48 rfl rfl (Yc_func (g := 51) (vs := [.agg #[.int .i64 r_5.Qubits, .slice B3 r_5.Gates.length c3], .int .i64 1]) k_call_51 rfl (mc rfl (mc rfl mn)) (c_laws_markCircuit r_5 1 B3 c3 r_5.Gates.length _ rfl (hS18.inn [false, false, false, false, true, false, false, false, false] rfl [] rfl) hc8)) ?_
            rintro _ w_15 ⟨rfl, hl, hd8⟩
            have hS19 := hS18.out [false, false, false, false, true, false, false, false, false] rfl hd8
            have hS19 : ST w0 [] _ [⟨some ⟨b, 0, none⟩, 41, [.int .i64 aC.Qubits, .slice B aC.Gates.length c], 2⟩, ⟨B1, 171, (r_2.Gates.flatMap enc_Gate), c1 * 3⟩, ⟨B2, 83, (r_3.Cells.flatMap enc_Dyadic), c2 * 5⟩, ⟨some ⟨b1, 0, none⟩, 26, [.int .i64 r_3.Rows, .int .i64 r_3.Cols, .slice B2 r_3.Cells.length c2], 3⟩, ⟨some ⟨b2, 0, none⟩, 57, [.int .i64 r_5.Qubits, .slice B3 r_5.Gates.length c3], 2⟩, ⟨B4, 83, (r_6.Cells.flatMap enc_Dyadic), c4 * 5⟩, ⟨some ⟨b3, 0, none⟩, 26, [.int .i64 r_6.Rows, .int .i64 r_6.Cols, .slice B4 r_6.Cells.length c4], 3⟩, ⟨B5, 171, (r_9.Gates.flatMap enc_Gate), c5 * 3⟩, ⟨B3, 171, (m.flatMap enc_Gate), c3 * 3⟩] [⟨B, (aC.Gates.flatMap enc_Gate)⟩] := hS19
            refine sq 9 rfl rfl (Y_assign (v := .int .i64 r_11) rfl rfl) ?_
            refine rw_nil ?_
            refine cw_seq ?_
            refine cw_seq ?_
            refine cw_region ?_
            refine sq 49 rfl rfl (Y_move (v := .int .i64 r_11) rfl rfl) ?_
            refine sq 50 rfl rfl (Y_lt (k := .i64) (a := r_11) (b := 0) rfl rfl rfl) ?_
            refine sq 51 rfl rfl (Y_move (v := .bool (decide (r_11 < 0))) rfl rfl) ?_
            refine sgq 52 (B := (!(decide (r_11 < 0)))) (v := .agg #[.int .i64 r_6.Rows, .int .i64 r_6.Cols, .slice B4 r_6.Cells.length c4]) rfl rfl (wt_f (gd_of (t := 51) (by kernel_rfl) rfl)) (fun hg3 => (Y_loadA (B := some ⟨b3, 0, none⟩) (i := 0) (cs := [.int .i64 r_6.Rows, .int .i64 r_6.Cols, .slice B4 r_6.Cells.length c4]) (vs := [.int .i64 r_6.Rows, .int .i64 r_6.Cols, .slice B4 r_6.Cells.length c4]) k_ag_26 k_sz_26_3 rfl rfl (hS19.cf (i := 6) rfl) rfl rfl)) ?_
            refine sgq 53 (B := (!(decide (r_11 < 0)))) (v := .agg #[.int .i64 r_3.Rows, .int .i64 r_3.Cols, .slice B2 r_3.Cells.length c2]) rfl rfl (wt_f (gd_of (t := 51) (by kernel_rfl) rfl)) (fun hg4 => (Y_loadA (B := some ⟨b1, 0, none⟩) (i := 0) (cs := [.int .i64 r_3.Rows, .int .i64 r_3.Cols, .slice B2 r_3.Cells.length c2]) (vs := [.int .i64 r_3.Rows, .int .i64 r_3.Cols, .slice B2 r_3.Cells.length c2]) k_ag_26 k_sz_26_3 rfl rfl (hS19.cf (i := 3) rfl) rfl rfl)) ?_
            obtain ⟨r_12, hc9, hF6⟩ := bind_inv hF6
            refine sgc 54 (B := (!(decide (r_11 < 0)))) (v := .bool r_12) (F := hS19.fn) rfl rfl (wt_f (gd_of (t := 51) (by kernel_rfl) rfl)) hS19 (fun hg5 => (Yc_func (g := 18) (vs := [.agg #[.int .i64 r_6.Rows, .int .i64 r_6.Cols, .slice B4 r_6.Cells.length c4], .agg #[.int .i64 r_3.Rows, .int .i64 r_3.Cols, .slice B2 r_3.Cells.length c2]]) k_call_18 rfl (mc (gv_of (B := (!(decide (r_11 < 0)))) (v := .agg #[.int .i64 r_6.Rows, .int .i64 r_6.Cols, .slice B4 r_6.Cells.length c4]) hg5) (mc (gv_of (B := (!(decide (r_11 < 0)))) (v := .agg #[.int .i64 r_3.Rows, .int .i64 r_3.Cols, .slice B2 r_3.Cells.length c2]) hg5) mn)) (CV.mono (c_laws_eqMatrix r_6 r_3 B4 c4 r_6.Cells.length B2 c2 r_3.Cells.length _ rfl rfl (hS19.inn0 [(false, 5), (false, 2)] rfl) (gb_inv hc9 hg5)) (by rintro _ _ ⟨rfl, h⟩; exact ⟨rfl, hS19.out00 h⟩)))) ?_
            rintro w_16 hS20
            have hS20 : ST _ _ w_16 _ _ := hS20
            refine sgq 55 (B := (!(decide (r_11 < 0)))) (v := .bool (!r_12)) rfl rfl (wt_f (gd_of (t := 51) (by kernel_rfl) rfl)) (fun hg6 => (Y_not (p := r_12) rfl (gv_of (B := (!(decide (r_11 < 0)))) (v := .bool r_12) hg6))) ?_
            refine sq 56 rfl rfl (Y_or (b := (decide (r_11 < 0))) (z := (!r_12)) rfl rfl rfl rfl) ?_
            refine sq 57 rfl rfl (Y_move (v := .bool ((decide (r_11 < 0)) || (!r_12))) rfl rfl) ?_
            refine sgq 58 (B := (!((decide (r_11 < 0)) || (!r_12)))) (v := .bool r_7) rfl rfl (wt_f (gd_of (t := 57) (by kernel_rfl) rfl)) (fun hg7 => (Y_move (v := .bool r_7) rfl rfl)) ?_
            refine sgq 59 (B := (!((decide (r_11 < 0)) || (!r_12)))) (v := .bool r_4) rfl rfl (wt_f (gd_of (t := 57) (by kernel_rfl) rfl)) (fun hg8 => (Y_move (v := .bool r_4) rfl rfl)) ?_
            refine sgq 60 (B := (!((decide (r_11 < 0)) || (!r_12)))) (v := .bool (!(r_7 == r_4))) rfl rfl (wt_f (gd_of (t := 57) (by kernel_rfl) rfl)) (fun hg9 => (Y_bne (p := r_7) (q := r_4) k_und_4 rfl (gv_of (B := (!((decide (r_11 < 0)) || (!r_12)))) (v := .bool r_7) hg9) (gv_of (B := (!((decide (r_11 < 0)) || (!r_12)))) (v := .bool r_4) hg9))) ?_
            refine sq 61 rfl rfl (Y_or (b := ((decide (r_11 < 0)) || (!r_12))) (z := (!(r_7 == r_4))) rfl rfl rfl rfl) ?_
            refine rw_nil ?_
            refine cw_cond (b := (((decide (r_11 < 0)) || (!r_12)) || (!(r_7 == r_4)))) rfl (fun hb3 => ?_) (fun hb3 => ?_)
            · skip
              have hF7 := ct hF6 hb3
              refine cw_seq ?_
              refine cw_region ?_
              refine sq 2 rfl rfl (Y_assign (v := .bool false) rfl rfl) ?_
              refine rw_nil ?_
              refine cw_ret ?_
              obtain rfl := some_inj hF7
              exact ret1 Try.results13 (v1 := .bool false) (resAt_tmp rfl) ⟨rfl, (ST.subR (R' := []) (hS20.sel [] rfl rfl) (fun _ h => by cases h))⟩
            · skip
              have hF8 := cf' hF6 hb3
              refine cw_skip ?_
              refine cw_seq ?_
              refine cw_region ?_
              refine sq 10 rfl rfl (Y_assign (v := .int .i64 1) rfl rfl) ?_
              refine rw_nil ?_
              refine cw_seq ?_
              refine cw_region ?_
              refine sq 62 rfl rfl (Y_loadA (B := some ⟨b3, 0, none⟩) (i := 0) (cs := [.int .i64 r_6.Rows, .int .i64 r_6.Cols, .slice B4 r_6.Cells.length c4]) (vs := [.int .i64 r_6.Rows, .int .i64 r_6.Cols, .slice B4 r_6.Cells.length c4]) k_ag_26 k_sz_26_3 rfl rfl (hS20.cf (i := 6) rfl) rfl rfl) ?_
              refine sq 63 rfl rfl (Y_move (v := .int .i64 1) rfl rfl) ?_
              obtain ⟨⟨r_13, m1⟩, hc10, hF8⟩ := bind_inv hF8
              refine sc 64 rfl rfl (Yc_func (g := 21) (vs := [.agg #[.int .i64 r_6.Rows, .int .i64 r_6.Cols, .slice B4 r_6.Cells.length c4], .int .i64 1]) k_call_21 rfl (mc rfl (mc rfl mn)) (c_laws_markMatrix r_6 1 B4 c4 r_6.Cells.length _ rfl (hS20.inn [false, false, false, false, false, true, false, false, false] rfl [] rfl) hc10)) ?_
              rintro _ w_17 ⟨rfl, hl1, hd9⟩
              have hS21 := hS20.out [false, false, false, false, false, true, false, false, false] rfl hd9
              have hS21 : ST w0 [] _ [⟨some ⟨b, 0, none⟩, 41, [.int .i64 aC.Qubits, .slice B aC.Gates.length c], 2⟩, ⟨B1, 171, (r_2.Gates.flatMap enc_Gate), c1 * 3⟩, ⟨B2, 83, (r_3.Cells.flatMap enc_Dyadic), c2 * 5⟩, ⟨some ⟨b1, 0, none⟩, 26, [.int .i64 r_3.Rows, .int .i64 r_3.Cols, .slice B2 r_3.Cells.length c2], 3⟩, ⟨some ⟨b2, 0, none⟩, 57, [.int .i64 r_5.Qubits, .slice B3 r_5.Gates.length c3], 2⟩, ⟨some ⟨b3, 0, none⟩, 26, [.int .i64 r_6.Rows, .int .i64 r_6.Cols, .slice B4 r_6.Cells.length c4], 3⟩, ⟨B5, 171, (r_9.Gates.flatMap enc_Gate), c5 * 3⟩, ⟨B3, 171, (m.flatMap enc_Gate), c3 * 3⟩, ⟨B4, 83, (m1.flatMap enc_Dyadic), c4 * 5⟩] [⟨B, (aC.Gates.flatMap enc_Gate)⟩] := hS21
              refine sq 10 rfl rfl (Y_assign (v := .int .i64 r_13) rfl rfl) ?_
              refine rw_nil ?_
              refine cw_seq ?_
              refine cw_region ?_
              refine sq 11 rfl rfl (Y_assign (v := .int .i64 1) rfl rfl) ?_
              refine rw_nil ?_
              refine cw_seq ?_
              refine cw_region ?_
              refine sq 65 rfl rfl (Y_loadA (B := some ⟨b3, 0, none⟩) (i := 0) (cs := [.int .i64 r_6.Rows, .int .i64 r_6.Cols, .slice B4 r_6.Cells.length c4]) (vs := [.int .i64 r_6.Rows, .int .i64 r_6.Cols, .slice B4 r_6.Cells.length c4]) k_ag_26 k_sz_26_3 rfl rfl (hS21.cf (i := 5) rfl) rfl rfl) ?_
              refine sq 66 rfl rfl (Y_move (v := .int .i64 1) rfl rfl) ?_
              obtain ⟨r_14, hc11, hF8⟩ := bind_inv hF8
              refine sc 67 rfl rfl (Yc_func (g := 22) (vs := [.agg #[.int .i64 r_6.Rows, .int .i64 r_6.Cols, .slice B4 r_6.Cells.length c4], .int .i64 1]) k_call_22 rfl (mc rfl (mc rfl mn)) (c_laws_heldMatrix (TMatrix.mk r_6.Rows r_6.Cols m1) 1 B4 c4 r_6.Cells.length _ hl1 (hS21.inn0 [(false, 8)] rfl) hc11)) ?_
              rintro _ w_18 ⟨rfl, hd10⟩
              have hS22 := hS21.out00 hd10
              have hS22 : ST w0 [] _ [⟨some ⟨b, 0, none⟩, 41, [.int .i64 aC.Qubits, .slice B aC.Gates.length c], 2⟩, ⟨B1, 171, (r_2.Gates.flatMap enc_Gate), c1 * 3⟩, ⟨B2, 83, (r_3.Cells.flatMap enc_Dyadic), c2 * 5⟩, ⟨some ⟨b1, 0, none⟩, 26, [.int .i64 r_3.Rows, .int .i64 r_3.Cols, .slice B2 r_3.Cells.length c2], 3⟩, ⟨some ⟨b2, 0, none⟩, 57, [.int .i64 r_5.Qubits, .slice B3 r_5.Gates.length c3], 2⟩, ⟨some ⟨b3, 0, none⟩, 26, [.int .i64 r_6.Rows, .int .i64 r_6.Cols, .slice B4 r_6.Cells.length c4], 3⟩, ⟨B5, 171, (r_9.Gates.flatMap enc_Gate), c5 * 3⟩, ⟨B3, 171, (m.flatMap enc_Gate), c3 * 3⟩, ⟨B4, 83, (m1.flatMap enc_Dyadic), c4 * 5⟩] [⟨B, (aC.Gates.flatMap enc_Gate)⟩] := hS22
              refine sq 11 rfl rfl (Y_assign (v := .int .i64 r_14) rfl rfl) ?_
              refine rw_nil ?_
              refine cw_seq ?_
              refine cw_seq ?_
              refine cw_region ?_
              refine sq 68 rfl rfl (Y_move (v := .int .i64 r_14) rfl rfl) ?_
              refine sq 69 rfl rfl (Y_lt (k := .i64) (a := r_14) (b := 0) rfl rfl rfl) ?_
              refine rw_nil ?_
              refine cw_cond (b := (decide (r_14 < 0))) rfl (fun hb4 => ?_) (fun hb4 => ?_)
              · skip
                have hF9 := ct hF8 hb4
                refine cw_seq ?_
                refine cw_region ?_
                refine sq 2 rfl rfl (Y_assign (v := .bool false) rfl rfl) ?_
                refine rw_nil ?_
                refine cw_ret ?_
                obtain rfl := some_inj hF9
                exact ret1 Try.results13 (v1 := .bool false) (resAt_tmp rfl) ⟨rfl, (ST.subR (R' := []) (hS22.sel [] rfl rfl) (fun _ h => by cases h))⟩
              · skip
                have hF10 := cf' hF8 hb4
                refine cw_skip ?_
                refine cw_seq ?_
                refine cw_seq ?_
                refine cw_region ?_
                refine sq 70 rfl rfl (Y_move (v := .int .i64 r_14) rfl rfl) ?_
                refine sq 71 rfl rfl (Y_move (v := .int .i64 r_13) rfl rfl) ?_
                refine sq 72 rfl rfl (Y_ne (k := .i64) (a := r_14) (b := r_13) rfl rfl rfl) ?_
                refine rw_nil ?_
                refine cw_cond (b := (r_14 != r_13)) rfl (fun hb5 => ?_) (fun hb5 => ?_)
                · skip
                  have hF11 := ct hF10 hb5
                  refine cw_seq ?_
                  refine cw_region ?_
                  refine sq 2 rfl rfl (Y_assign (v := .bool false) rfl rfl) ?_
                  refine rw_nil ?_
                  refine cw_ret ?_
                  obtain rfl := some_inj hF11
                  exact ret1 Try.results13 (v1 := .bool false) (resAt_tmp rfl) ⟨rfl, (ST.subR (R' := []) (hS22.sel [] rfl rfl) (fun _ h => by cases h))⟩
                · skip
                  have hF12 := cf' hF10 hb5
                  refine cw_skip ?_
                  refine cw_seq ?_
                  refine cw_region ?_
                  refine sq 74 rfl rfl (Y_loadA (B := some ⟨b, 0, none⟩) (i := 0) (cs := [.int .i64 aC.Qubits, .slice B aC.Gates.length c]) (vs := [.int .i64 aC.Qubits, .slice B aC.Gates.length c]) k_ag_41 k_sz_41_2 rfl rfl (hS22.cf (i := 0) rfl) rfl rfl) ?_
                  obtain ⟨r_15, hc12, hF12⟩ := bind_inv hF12
                  refine sc 75 rfl rfl (Yc_func (g := 28) (vs := [.agg #[.int .i64 aC.Qubits, .slice B aC.Gates.length c]]) k_call_28 rfl (mc rfl mn) (c_laws_toCircuit aC B c aC.Gates.length _ rfl (hS22.inn0 [(true, 0)] rfl) hc12)) ?_
                  rintro _ w_19 ⟨B6, c6, rfl, hd11⟩
                  have hS23 := hS22.out0 hd11
                  have hS23 : ST w0 [] _ [⟨some ⟨b, 0, none⟩, 41, [.int .i64 aC.Qubits, .slice B aC.Gates.length c], 2⟩, ⟨B1, 171, (r_2.Gates.flatMap enc_Gate), c1 * 3⟩, ⟨B2, 83, (r_3.Cells.flatMap enc_Dyadic), c2 * 5⟩, ⟨some ⟨b1, 0, none⟩, 26, [.int .i64 r_3.Rows, .int .i64 r_3.Cols, .slice B2 r_3.Cells.length c2], 3⟩, ⟨some ⟨b2, 0, none⟩, 57, [.int .i64 r_5.Qubits, .slice B3 r_5.Gates.length c3], 2⟩, ⟨some ⟨b3, 0, none⟩, 26, [.int .i64 r_6.Rows, .int .i64 r_6.Cols, .slice B4 r_6.Cells.length c4], 3⟩, ⟨B5, 171, (r_9.Gates.flatMap enc_Gate), c5 * 3⟩, ⟨B3, 171, (m.flatMap enc_Gate), c3 * 3⟩, ⟨B4, 83, (m1.flatMap enc_Dyadic), c4 * 5⟩, ⟨B6, 171, (r_15.Gates.flatMap enc_Gate), c6 * 3⟩] [⟨B, (aC.Gates.flatMap enc_Gate)⟩] := hS23
                  obtain ⟨⟨r_16, r_17⟩, hc13, hF12⟩ := bind_inv hF12
                  refine sc 76 rfl rfl (Yc_func (g := 65) (vs := [.agg #[.int .i64 r_15.Qubits, .slice B6 r_15.Gates.length c6]]) k_call_65 rfl (mc rfl mn) (c_impl_OperatorOf r_15 B6 c6 r_15.Gates.length _ rfl (hS23.inn0 [(false, 9)] rfl) hc13)) ?_
                  rintro _ w_20 ⟨B7, c7, rfl, hd12⟩
                  have hS24 := hS23.out0 hd12
                  have hS24 : ST w0 [] _ [⟨some ⟨b, 0, none⟩, 41, [.int .i64 aC.Qubits, .slice B aC.Gates.length c], 2⟩, ⟨B1, 171, (r_2.Gates.flatMap enc_Gate), c1 * 3⟩, ⟨B2, 83, (r_3.Cells.flatMap enc_Dyadic), c2 * 5⟩, ⟨some ⟨b1, 0, none⟩, 26, [.int .i64 r_3.Rows, .int .i64 r_3.Cols, .slice B2 r_3.Cells.length c2], 3⟩, ⟨some ⟨b2, 0, none⟩, 57, [.int .i64 r_5.Qubits, .slice B3 r_5.Gates.length c3], 2⟩, ⟨some ⟨b3, 0, none⟩, 26, [.int .i64 r_6.Rows, .int .i64 r_6.Cols, .slice B4 r_6.Cells.length c4], 3⟩, ⟨B5, 171, (r_9.Gates.flatMap enc_Gate), c5 * 3⟩, ⟨B3, 171, (m.flatMap enc_Gate), c3 * 3⟩, ⟨B4, 83, (m1.flatMap enc_Dyadic), c4 * 5⟩, ⟨B6, 171, (r_15.Gates.flatMap enc_Gate), c6 * 3⟩, ⟨B7, 83, (r_16.Cells.flatMap enc_Dyadic), c7 * 5⟩] [⟨B, (aC.Gates.flatMap enc_Gate)⟩] := hS24
                  refine sq 73 rfl rfl (Y_move (v := .tuple #[.agg #[.int .i64 r_16.Rows, .int .i64 r_16.Cols, .slice B7 r_16.Cells.length c7], .bool r_17]) rfl rfl) ?_
                  refine sq 77 rfl rfl (Y_extract (v := .agg #[.int .i64 r_16.Rows, .int .i64 r_16.Cols, .slice B7 r_16.Cells.length c7]) rfl rfl rfl) ?_
                  refine sq 78 rfl rfl (Y_extract (v := .bool r_17) rfl rfl rfl) ?_
                  refine ss 12 rfl rfl (Ys_alloc (T := 26) (cs := [.int .i64 0, .int .i64 0, .slice none 0 0]) (m := 3) hS24 k_zero_26 rfl rfl rfl) ?_
                  rintro _ w_21 ⟨b4, rfl, hS25⟩
                  have hS25 : ST w0 [] _ [⟨some ⟨b, 0, none⟩, 41, [.int .i64 aC.Qubits, .slice B aC.Gates.length c], 2⟩, ⟨B1, 171, (r_2.Gates.flatMap enc_Gate), c1 * 3⟩, ⟨B2, 83, (r_3.Cells.flatMap enc_Dyadic), c2 * 5⟩, ⟨some ⟨b1, 0, none⟩, 26, [.int .i64 r_3.Rows, .int .i64 r_3.Cols, .slice B2 r_3.Cells.length c2], 3⟩, ⟨some ⟨b2, 0, none⟩, 57, [.int .i64 r_5.Qubits, .slice B3 r_5.Gates.length c3], 2⟩, ⟨some ⟨b3, 0, none⟩, 26, [.int .i64 r_6.Rows, .int .i64 r_6.Cols, .slice B4 r_6.Cells.length c4], 3⟩, ⟨B5, 171, (r_9.Gates.flatMap enc_Gate), c5 * 3⟩, ⟨B3, 171, (m.flatMap enc_Gate), c3 * 3⟩, ⟨B4, 83, (m1.flatMap enc_Dyadic), c4 * 5⟩, ⟨B6, 171, (r_15.Gates.flatMap enc_Gate), c6 * 3⟩, ⟨B7, 83, (r_16.Cells.flatMap enc_Dyadic), c7 * 5⟩, ⟨some ⟨b4, 0, none⟩, 26, [.int .i64 0, .int .i64 0, .slice none 0 0], 3⟩] [⟨B, (aC.Gates.flatMap enc_Gate)⟩] := hS25
                  refine ss0 rfl rfl (Ys_store (i := 11) (s := 3) (B := some ⟨b4, 0, none⟩) (T' := 26) (v := .agg #[.int .i64 r_16.Rows, .int .i64 r_16.Cols, .slice B7 r_16.Cells.length c7]) (vs := [.int .i64 r_16.Rows, .int .i64 r_16.Cols, .slice B7 r_16.Cells.length c7]) (k := 0) (cs' := [.int .i64 r_16.Rows, .int .i64 r_16.Cols, .slice B7 r_16.Cells.length c7]) hS25 k_sz_26_3 rfl rfl rfl rfl rfl rfl rfl (Nat.le_of_ble_eq_true rfl) rfl rfl) ?_
                  rintro _ w_22 ⟨rfl, hS26⟩
                  have hS26 : ST w0 [] _ [⟨some ⟨b, 0, none⟩, 41, [.int .i64 aC.Qubits, .slice B aC.Gates.length c], 2⟩, ⟨B1, 171, (r_2.Gates.flatMap enc_Gate), c1 * 3⟩, ⟨B2, 83, (r_3.Cells.flatMap enc_Dyadic), c2 * 5⟩, ⟨some ⟨b1, 0, none⟩, 26, [.int .i64 r_3.Rows, .int .i64 r_3.Cols, .slice B2 r_3.Cells.length c2], 3⟩, ⟨some ⟨b2, 0, none⟩, 57, [.int .i64 r_5.Qubits, .slice B3 r_5.Gates.length c3], 2⟩, ⟨some ⟨b3, 0, none⟩, 26, [.int .i64 r_6.Rows, .int .i64 r_6.Cols, .slice B4 r_6.Cells.length c4], 3⟩, ⟨B5, 171, (r_9.Gates.flatMap enc_Gate), c5 * 3⟩, ⟨B3, 171, (m.flatMap enc_Gate), c3 * 3⟩, ⟨B4, 83, (m1.flatMap enc_Dyadic), c4 * 5⟩, ⟨B6, 171, (r_15.Gates.flatMap enc_Gate), c6 * 3⟩, ⟨B7, 83, (r_16.Cells.flatMap enc_Dyadic), c7 * 5⟩, ⟨some ⟨b4, 0, none⟩, 26, [.int .i64 r_16.Rows, .int .i64 r_16.Cols, .slice B7 r_16.Cells.length c7], 3⟩] [⟨B, (aC.Gates.flatMap enc_Gate)⟩] := hS26
                  refine sq 13 rfl rfl (Y_assign (v := .bool r_17) rfl rfl) ?_
                  refine rw_nil ?_
                  refine cw_seq ?_
                  refine cw_seq ?_
                  refine cw_region ?_
                  refine sq 79 rfl rfl (Y_loadA (B := some ⟨b4, 0, none⟩) (i := 0) (cs := [.int .i64 r_16.Rows, .int .i64 r_16.Cols, .slice B7 r_16.Cells.length c7]) (vs := [.int .i64 r_16.Rows, .int .i64 r_16.Cols, .slice B7 r_16.Cells.length c7]) k_ag_26 k_sz_26_3 rfl rfl (hS26.cf (i := 11) rfl) rfl rfl) ?_
                  refine sq 80 rfl rfl (Y_loadA (B := some ⟨b1, 0, none⟩) (i := 0) (cs := [.int .i64 r_3.Rows, .int .i64 r_3.Cols, .slice B2 r_3.Cells.length c2]) (vs := [.int .i64 r_3.Rows, .int .i64 r_3.Cols, .slice B2 r_3.Cells.length c2]) k_ag_26 k_sz_26_3 rfl rfl (hS26.cf (i := 3) rfl) rfl rfl) ?_
                  obtain ⟨r_18, hc14, hF12⟩ := bind_inv hF12
                  refine sc 81 rfl rfl (Yc_func (g := 18) (vs := [.agg #[.int .i64 r_16.Rows, .int .i64 r_16.Cols, .slice B7 r_16.Cells.length c7], .agg #[.int .i64 r_3.Rows, .int .i64 r_3.Cols, .slice B2 r_3.Cells.length c2]]) k_call_18 rfl (mc rfl (mc rfl mn)) (c_laws_eqMatrix r_16 r_3 B7 c7 r_16.Cells.length B2 c2 r_3.Cells.length _ rfl rfl (hS26.inn0 [(false, 10), (false, 2)] rfl) hc14)) ?_
                  rintro _ w_23 ⟨rfl, hd13⟩
                  have hS27 := hS26.out00 hd13
                  have hS27 : ST w0 [] _ [⟨some ⟨b, 0, none⟩, 41, [.int .i64 aC.Qubits, .slice B aC.Gates.length c], 2⟩, ⟨B1, 171, (r_2.Gates.flatMap enc_Gate), c1 * 3⟩, ⟨B2, 83, (r_3.Cells.flatMap enc_Dyadic), c2 * 5⟩, ⟨some ⟨b1, 0, none⟩, 26, [.int .i64 r_3.Rows, .int .i64 r_3.Cols, .slice B2 r_3.Cells.length c2], 3⟩, ⟨some ⟨b2, 0, none⟩, 57, [.int .i64 r_5.Qubits, .slice B3 r_5.Gates.length c3], 2⟩, ⟨some ⟨b3, 0, none⟩, 26, [.int .i64 r_6.Rows, .int .i64 r_6.Cols, .slice B4 r_6.Cells.length c4], 3⟩, ⟨B5, 171, (r_9.Gates.flatMap enc_Gate), c5 * 3⟩, ⟨B3, 171, (m.flatMap enc_Gate), c3 * 3⟩, ⟨B4, 83, (m1.flatMap enc_Dyadic), c4 * 5⟩, ⟨B6, 171, (r_15.Gates.flatMap enc_Gate), c6 * 3⟩, ⟨B7, 83, (r_16.Cells.flatMap enc_Dyadic), c7 * 5⟩, ⟨some ⟨b4, 0, none⟩, 26, [.int .i64 r_16.Rows, .int .i64 r_16.Cols, .slice B7 r_16.Cells.length c7], 3⟩] [⟨B, (aC.Gates.flatMap enc_Gate)⟩] := hS27
                  refine sq 82 rfl rfl (Y_not (p := r_18) rfl rfl) ?_
                  refine sq 83 rfl rfl (Y_move (v := .bool (!r_18)) rfl rfl) ?_
                  refine sgq 84 (B := (!(!r_18))) (v := .bool r_17) rfl rfl (wt_f (gd_of (t := 83) (by kernel_rfl) rfl)) (fun hg10 => (Y_move (v := .bool r_17) rfl rfl)) ?_
                  refine sgq 85 (B := (!(!r_18))) (v := .bool r_4) rfl rfl (wt_f (gd_of (t := 83) (by kernel_rfl) rfl)) (fun hg11 => (Y_move (v := .bool r_4) rfl rfl)) ?_
                  refine sgq 86 (B := (!(!r_18))) (v := .bool (!(r_17 == r_4))) rfl rfl (wt_f (gd_of (t := 83) (by kernel_rfl) rfl)) (fun hg12 => (Y_bne (p := r_17) (q := r_4) k_und_4 rfl (gv_of (B := (!(!r_18))) (v := .bool r_17) hg12) (gv_of (B := (!(!r_18))) (v := .bool r_4) hg12))) ?_
                  refine sq 87 rfl rfl (Y_or (b := (!r_18)) (z := (!(r_17 == r_4))) rfl rfl rfl rfl) ?_
                  refine rw_nil ?_
                  refine cw_cond (b := ((!r_18) || (!(r_17 == r_4)))) rfl (fun hb6 => ?_) (fun hb6 => ?_)
                  · skip
                    have hF13 := ct hF12 hb6
                    refine cw_seq ?_
                    refine cw_region ?_
                    refine sq 2 rfl rfl (Y_assign (v := .bool false) rfl rfl) ?_
                    refine rw_nil ?_
                    refine cw_ret ?_
                    obtain rfl := some_inj hF13
                    exact ret1 Try.results13 (v1 := .bool false) (resAt_tmp rfl) ⟨rfl, (ST.subR (R' := []) (hS27.sel [] rfl rfl) (fun _ h => by cases h))⟩
                  · skip
                    have hF14 := cf' hF12 hb6
                    refine cw_skip ?_
                    refine cw_seq ?_
                    refine cw_region ?_
                    refine sq 11 rfl rfl (Y_assign (v := .int .i64 1) rfl rfl) ?_
                    refine rw_nil ?_
                    refine cw_seq ?_
                    refine cw_region ?_
                    refine sq 88 rfl rfl (Y_loadA (B := some ⟨b3, 0, none⟩) (i := 0) (cs := [.int .i64 r_6.Rows, .int .i64 r_6.Cols, .slice B4 r_6.Cells.length c4]) (vs := [.int .i64 r_6.Rows, .int .i64 r_6.Cols, .slice B4 r_6.Cells.length c4]) k_ag_26 k_sz_26_3 rfl rfl (hS27.cf (i := 5) rfl) rfl rfl) ?_
                    refine sq 89 rfl rfl (Y_move (v := .int .i64 1) rfl rfl) ?_
                    obtain ⟨r_19, hc15, hF14⟩ := bind_inv hF14
                    refine sc 90 rfl rfl (Yc_func (g := 22) (vs := [.agg #[.int .i64 r_6.Rows, .int .i64 r_6.Cols, .slice B4 r_6.Cells.length c4], .int .i64 1]) k_call_22 rfl (mc rfl (mc rfl mn)) (c_laws_heldMatrix (TMatrix.mk r_6.Rows r_6.Cols m1) 1 B4 c4 r_6.Cells.length _ hl1 (hS27.inn0 [(false, 8)] rfl) hc15)) ?_
                    rintro _ w_24 ⟨rfl, hd14⟩
                    have hS28 := hS27.out00 hd14
                    have hS28 : ST w0 [] _ [⟨some ⟨b, 0, none⟩, 41, [.int .i64 aC.Qubits, .slice B aC.Gates.length c], 2⟩, ⟨B1, 171, (r_2.Gates.flatMap enc_Gate), c1 * 3⟩, ⟨B2, 83, (r_3.Cells.flatMap enc_Dyadic), c2 * 5⟩, ⟨some ⟨b1, 0, none⟩, 26, [.int .i64 r_3.Rows, .int .i64 r_3.Cols, .slice B2 r_3.Cells.length c2], 3⟩, ⟨some ⟨b2, 0, none⟩, 57, [.int .i64 r_5.Qubits, .slice B3 r_5.Gates.length c3], 2⟩, ⟨some ⟨b3, 0, none⟩, 26, [.int .i64 r_6.Rows, .int .i64 r_6.Cols, .slice B4 r_6.Cells.length c4], 3⟩, ⟨B5, 171, (r_9.Gates.flatMap enc_Gate), c5 * 3⟩, ⟨B3, 171, (m.flatMap enc_Gate), c3 * 3⟩, ⟨B4, 83, (m1.flatMap enc_Dyadic), c4 * 5⟩, ⟨B6, 171, (r_15.Gates.flatMap enc_Gate), c6 * 3⟩, ⟨B7, 83, (r_16.Cells.flatMap enc_Dyadic), c7 * 5⟩, ⟨some ⟨b4, 0, none⟩, 26, [.int .i64 r_16.Rows, .int .i64 r_16.Cols, .slice B7 r_16.Cells.length c7], 3⟩] [⟨B, (aC.Gates.flatMap enc_Gate)⟩] := hS28
                    refine sq 11 rfl rfl (Y_assign (v := .int .i64 r_19) rfl rfl) ?_
                    refine rw_nil ?_
                    refine cw_seq ?_
                    refine cw_seq ?_
                    refine cw_region ?_
                    refine sq 91 rfl rfl (Y_move (v := .int .i64 r_19) rfl rfl) ?_
                    refine sq 92 rfl rfl (Y_lt (k := .i64) (a := r_19) (b := 0) rfl rfl rfl) ?_
                    refine rw_nil ?_
                    refine cw_cond (b := (decide (r_19 < 0))) rfl (fun hb7 => ?_) (fun hb7 => ?_)
                    · skip
                      have hF15 := ct hF14 hb7
                      refine cw_seq ?_
                      refine cw_region ?_
                      refine sq 2 rfl rfl (Y_assign (v := .bool false) rfl rfl) ?_
                      refine rw_nil ?_
                      refine cw_ret ?_
                      obtain rfl := some_inj hF15
                      exact ret1 Try.results13 (v1 := .bool false) (resAt_tmp rfl) ⟨rfl, (ST.subR (R' := []) (hS28.sel [] rfl rfl) (fun _ h => by cases h))⟩
                    · skip
                      have hF16 := cf' hF14 hb7
                      refine cw_skip ?_
                      refine cw_seq ?_
                      refine cw_seq ?_
                      refine cw_region ?_
                      refine sq 93 rfl rfl (Y_move (v := .int .i64 r_19) rfl rfl) ?_
                      refine sq 94 rfl rfl (Y_move (v := .int .i64 r_13) rfl rfl) ?_
                      refine sq 95 rfl rfl (Y_ne (k := .i64) (a := r_19) (b := r_13) rfl rfl rfl) ?_
                      refine rw_nil ?_
                      refine cw_cond (b := (r_19 != r_13)) rfl (fun hb8 => ?_) (fun hb8 => ?_)
                      · skip
                        have hF17 := ct hF16 hb8
                        refine cw_seq ?_
                        refine cw_region ?_
                        refine sq 2 rfl rfl (Y_assign (v := .bool false) rfl rfl) ?_
                        refine rw_nil ?_
                        refine cw_ret ?_
                        obtain rfl := some_inj hF17
                        exact ret1 Try.results13 (v1 := .bool false) (resAt_tmp rfl) ⟨rfl, (ST.subR (R' := []) (hS28.sel [] rfl rfl) (fun _ h => by cases h))⟩
                      · skip
                        have hF18 := cf' hF16 hb8
                        refine cw_skip ?_
                        refine cw_seq ?_
                        refine cw_region ?_
                        refine sq 2 rfl rfl (Y_assign (v := .bool true) rfl rfl) ?_
                        refine rw_nil ?_
                        refine cw_ret ?_
                        obtain rfl := some_inj hF18
                        exact ret1 Try.results13 (v1 := .bool true) (resAt_tmp rfl) ⟨rfl, (ST.subR (R' := []) (hS28.sel [] rfl rfl) (fun _ h => by cases h))⟩
        exact allR_nil
      exact allR_nil
end Go.VK
