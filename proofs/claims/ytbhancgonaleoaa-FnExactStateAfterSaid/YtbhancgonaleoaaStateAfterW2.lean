/- Walks: each Go function returns what its Lean function says. By program. -/
import Derived.Test.YtbhancgonaleoaaStateAfterFa
import Derived.Test.YtbhancgonaleoaaStateAfterW1
set_option linter.unusedVariables false
set_option maxRecDepth 100000
set_option maxHeartbeats 1000000
namespace Go.VK
open Go.RowKit
open Go.Proofs
attribute [local irreducible] CW RW RA CV Y Yw Yc Ys RetOf
attribute [local irreducible] F_laws_szGateS F_laws_szCircuit F_spec_l1In F_spec_l4Gate F_spec_l4Good F_spec_l2C_matrix F_spec_l1All F_spec_l1Good F_spec_l2C_ring F_spec_l1Root F_spec_l1Even F_spec_l1Half F_spec_l2Low F_spec_l1Add F_spec_l2C_add F_spec_l1Mul F_spec_l2C_mul F_spec_l2C_times F_spec_l1Turn F_spec_l2Power F_spec_l6Bit F_spec_l1Neg F_spec_l2Neg F_spec_l6One F_spec_l6Cell F_spec_l6Gate F_spec_l2C_run F_spec_l3Column F_spec_l3Unit F_spec_StateAfter F_laws_toGate F_laws_toGateS F_laws_toCircuit F_impl_within F_slices_IndexFunc_impl_Gate_impl_Gate F_slices_ContainsFunc_impl_Gate_impl_Gate F_impl_isTwo F_impl_IsValidGate F_impl_IsValidCircuit_1 F_impl_IsValidCircuit F_impl_isDim F_impl_matrixOf F_impl_whole F_impl_IdentityMatrix_1 F_impl_IdentityMatrix F_slices_IndexFunc_impl_Dyadic_impl_Dyadic F_slices_ContainsFunc_impl_Dyadic_impl_Dyadic F_impl_isCoef F_impl_IsValidRing F_impl_isEven F_impl_IsValidDyadic F_impl_IsValidMatrix_1 F_impl_IsValidMatrix F_impl_Matrix_at F_impl_ColumnOf_1 F_impl_ColumnOf F_impl_MulOmega F_impl_phase F_impl_bitOf F_impl_flipped F_impl_comesFrom F_impl_small F_impl_entry F_impl_GateMatrix_1 F_impl_GateMatrix F_impl_ringIf F_impl_MulRing F_impl_DivRootTwo F_impl_DyadicOf F_impl_MulDyadic F_impl_MulRootTwo F_impl_raised F_impl_combined F_impl_AddRing F_impl_AddDyadic F_impl_MulMatrix_1 F_impl_MulMatrix F_impl_applied F_impl_StateAfter F_laws_eqRing F_laws_eqDyadic F_laws_eqDyadicS F_laws_eqMatrix F_laws_eqGate F_laws_eqGateS F_laws_eqCircuit F_laws_markGateS F_laws_markCircuit F_laws_markDyadicS F_laws_markMatrix F_laws_heldDyadicS F_laws_heldMatrix F_laws_FnExactStateAfter
theorem c_spec_l1Neg (x : TRing)  (w0 : World)  (hS : ST w0 [] w0 [] []) {r_ : TRing} (hF : F_spec_l1Neg x = some r_) :
    CV Try.prog 187 #[.agg #[.int .i64 x.A, .int .i64 x.B, .int .i64 x.C, .int .i64 x.D]] w0 (fun v w' => v = .agg #[.int .i64 r_.A, .int .i64 r_.B, .int .i64 r_.C, .int .i64 r_.D] ∧ ST w0 [] w' [] []) := by
  unfold F_spec_l1Neg at hF
  refine cv_of_cw 16 Try.func187 rfl Try.ntmps187 rfl ?_
  refine cw_seq ?_
  refine cw_region ?_
  refine ss 1 rfl rfl (Ys_box (T := 114) (v := .agg #[.int .i64 x.A, .int .i64 x.B, .int .i64 x.C, .int .i64 x.D]) (cs := [.int .i64 x.A, .int .i64 x.B, .int .i64 x.C, .int .i64 x.D]) (m := 4) hS rfl rfl rfl rfl) ?_
  rintro _ w_ ⟨b, rfl, hS1⟩
  refine ss 2 rfl rfl (Ys_alloc (T := 114) (cs := [.int .i64 0, .int .i64 0, .int .i64 0, .int .i64 0]) (m := 4) hS1 k_zero_114 rfl rfl rfl) ?_
  rintro _ w_1 ⟨b1, rfl, hS2⟩
  have hS2 : ST w0 [] _ [⟨some ⟨b, 0, none⟩, 114, [.int .i64 x.A, .int .i64 x.B, .int .i64 x.C, .int .i64 x.D], 4⟩, ⟨some ⟨b1, 0, none⟩, 114, [.int .i64 0, .int .i64 0, .int .i64 0, .int .i64 0], 4⟩] [] := hS2
  refine rw_nil ?_
  refine cw_seq ?_
  refine cw_region ?_
  refine sq 3 rfl rfl (Y_fieldAddr (B := some ⟨b, 0, none⟩) (i := 0) (s := 0) k_fd_114_0_0_3 k_sz_3_1 rfl rfl) ?_
  refine sq 4 rfl rfl (Y_load1 (B := some ⟨b, 0, none⟩) (i := 0) (cs := [.int .i64 x.A, .int .i64 x.B, .int .i64 x.C, .int .i64 x.D]) (v := .int .i64 x.A) k_sc_3 rfl rfl (hS2.cf (i := 0) rfl) rfl) ?_
  refine sq 5 rfl rfl (Y_neg (k := .i64) (a := x.A) rfl rfl) ?_
  refine sq 6 rfl rfl (Y_fieldAddr (B := some ⟨b, 0, none⟩) (i := 0) (s := 0) k_fd_114_1_1_3 k_sz_3_1 rfl rfl) ?_
  refine sq 7 rfl rfl (Y_load1 (B := some ⟨b, 0, none⟩) (i := 1) (cs := [.int .i64 x.A, .int .i64 x.B, .int .i64 x.C, .int .i64 x.D]) (v := .int .i64 x.B) k_sc_3 rfl rfl (hS2.cf (i := 0) rfl) rfl) ?_
  refine sq 8 rfl rfl (Y_neg (k := .i64) (a := x.B) rfl rfl) ?_
  refine sq 9 rfl rfl (Y_fieldAddr (B := some ⟨b, 0, none⟩) (i := 0) (s := 0) k_fd_114_2_2_3 k_sz_3_1 rfl rfl) ?_
  refine sq 10 rfl rfl (Y_load1 (B := some ⟨b, 0, none⟩) (i := 2) (cs := [.int .i64 x.A, .int .i64 x.B, .int .i64 x.C, .int .i64 x.D]) (v := .int .i64 x.C) k_sc_3 rfl rfl (hS2.cf (i := 0) rfl) rfl) ?_
  refine sq 11 rfl rfl (Y_neg (k := .i64) (a := x.C) rfl rfl) ?_
  refine sq 12 rfl rfl (Y_fieldAddr (B := some ⟨b, 0, none⟩) (i := 0) (s := 0) k_fd_114_3_3_3 k_sz_3_1 rfl rfl) ?_
  refine sq 13 rfl rfl (Y_load1 (B := some ⟨b, 0, none⟩) (i := 3) (cs := [.int .i64 x.A, .int .i64 x.B, .int .i64 x.C, .int .i64 x.D]) (v := .int .i64 x.D) k_sc_3 rfl rfl (hS2.cf (i := 0) rfl) rfl) ?_
  refine sq 14 rfl rfl (Y_neg (k := .i64) (a := x.D) rfl rfl) ?_
  refine sq 15 rfl rfl (Y_buildS (zs := [.int .i64 0, .int .i64 0, .int .i64 0, .int .i64 0]) (vs := [(0, .int .i64 (IntKind.i64.wrap (-x.A))), (1, .int .i64 (IntKind.i64.wrap (-x.B))), (2, .int .i64 (IntKind.i64.wrap (-x.C))), (3, .int .i64 (IntKind.i64.wrap (-x.D)))]) (cs := [.int .i64 (IntKind.i64.wrap (-x.A)), .int .i64 (IntKind.i64.wrap (-x.B)), .int .i64 (IntKind.i64.wrap (-x.C)), .int .i64 (IntKind.i64.wrap (-x.D))]) k_pl_114 k_zero_114 rfl (mpc rfl (mpc rfl (mpc rfl (mpc rfl mpn)))) rfl) ?_
  refine ss0 rfl rfl (Ys_store (i := 1) (s := 4) (B := some ⟨b1, 0, none⟩) (T' := 114) (v := .agg #[.int .i64 (IntKind.i64.wrap (-x.A)), .int .i64 (IntKind.i64.wrap (-x.B)), .int .i64 (IntKind.i64.wrap (-x.C)), .int .i64 (IntKind.i64.wrap (-x.D))]) (vs := [.int .i64 (IntKind.i64.wrap (-x.A)), .int .i64 (IntKind.i64.wrap (-x.B)), .int .i64 (IntKind.i64.wrap (-x.C)), .int .i64 (IntKind.i64.wrap (-x.D))]) (k := 0) (cs' := [.int .i64 (IntKind.i64.wrap (-x.A)), .int .i64 (IntKind.i64.wrap (-x.B)), .int .i64 (IntKind.i64.wrap (-x.C)), .int .i64 (IntKind.i64.wrap (-x.D))]) hS2 k_sz_114_4 rfl rfl rfl rfl rfl rfl rfl (Nat.le_of_ble_eq_true rfl) rfl rfl) ?_
  rintro _ w_2 ⟨rfl, hS3⟩
  have hS3 : ST w0 [] _ [⟨some ⟨b, 0, none⟩, 114, [.int .i64 x.A, .int .i64 x.B, .int .i64 x.C, .int .i64 x.D], 4⟩, ⟨some ⟨b1, 0, none⟩, 114, [.int .i64 (IntKind.i64.wrap (-x.A)), .int .i64 (IntKind.i64.wrap (-x.B)), .int .i64 (IntKind.i64.wrap (-x.C)), .int .i64 (IntKind.i64.wrap (-x.D))], 4⟩] [] := hS3
  refine rw_nil ?_
  refine cw_ret ?_
  obtain rfl := some_inj hF
  exact ret1 Try.results187 (v1 := .agg #[.int .i64 (IntKind.i64.wrap (-x.A)), .int .i64 (IntKind.i64.wrap (-x.B)), .int .i64 (IntKind.i64.wrap (-x.C)), .int .i64 (IntKind.i64.wrap (-x.D))]) (resAt_cellA (B := some ⟨b1, 0, none⟩) (i := 0) (cs := [.int .i64 (IntKind.i64.wrap (-x.A)), .int .i64 (IntKind.i64.wrap (-x.B)), .int .i64 (IntKind.i64.wrap (-x.C)), .int .i64 (IntKind.i64.wrap (-x.D))]) (vs := [.int .i64 (IntKind.i64.wrap (-x.A)), .int .i64 (IntKind.i64.wrap (-x.B)), .int .i64 (IntKind.i64.wrap (-x.C)), .int .i64 (IntKind.i64.wrap (-x.D))]) rfl k_ag_114 k_sz_114_4 (hS3.cf (i := 1) rfl) rfl rfl) ⟨rfl, (ST.subR (R' := []) (hS3.sel [] rfl rfl) (fun _ h => by cases h))⟩

theorem c_spec_l2Neg (x : TDyadic)  (w0 : World)  (hS : ST w0 [] w0 [] []) {r_ : TDyadic} (hF : F_spec_l2Neg x = some r_) :
    CV Try.prog 171 #[.agg #[.int .i64 x.Num.A, .int .i64 x.Num.B, .int .i64 x.Num.C, .int .i64 x.Num.D, .int .i64 x.Exp]] w0 (fun v w' => v = .agg #[.int .i64 r_.Num.A, .int .i64 r_.Num.B, .int .i64 r_.Num.C, .int .i64 r_.Num.D, .int .i64 r_.Exp] ∧ ST w0 [] w' [] []) := by
  unfold F_spec_l2Neg at hF
  refine cv_of_cw 9 Try.func171 rfl Try.ntmps171 rfl ?_
  refine cw_seq ?_
  refine cw_region ?_
  refine ss 1 rfl rfl (Ys_box (T := 116) (v := .agg #[.int .i64 x.Num.A, .int .i64 x.Num.B, .int .i64 x.Num.C, .int .i64 x.Num.D, .int .i64 x.Exp]) (cs := [.int .i64 x.Num.A, .int .i64 x.Num.B, .int .i64 x.Num.C, .int .i64 x.Num.D, .int .i64 x.Exp]) (m := 5) hS rfl rfl rfl rfl) ?_
  rintro _ w_ ⟨b, rfl, hS1⟩
  refine ss 2 rfl rfl (Ys_alloc (T := 116) (cs := [.int .i64 0, .int .i64 0, .int .i64 0, .int .i64 0, .int .i64 0]) (m := 5) hS1 k_zero_116 rfl rfl rfl) ?_
  rintro _ w_1 ⟨b1, rfl, hS2⟩
  have hS2 : ST w0 [] _ [⟨some ⟨b, 0, none⟩, 116, [.int .i64 x.Num.A, .int .i64 x.Num.B, .int .i64 x.Num.C, .int .i64 x.Num.D, .int .i64 x.Exp], 5⟩, ⟨some ⟨b1, 0, none⟩, 116, [.int .i64 0, .int .i64 0, .int .i64 0, .int .i64 0, .int .i64 0], 5⟩] [] := hS2
  refine rw_nil ?_
  refine cw_seq ?_
  obtain ⟨r_1, hc, hF⟩ := bind_inv hF
  refine ra_start (ST.sel hS2 [0] rfl rfl).fn (by kernel_rfl) ?_
  have hS4 := hS2.drew
  refine ra_q 0 3 (v := pt (some ⟨b, 0, none⟩) 0) rfl rfl rfl (by kernel_rfl) (by kernel_rfl) (by kernel_rfl) (ST.sel hS4 [0] rfl rfl) (fun w' hw' => (Y_fieldAddr (B := some ⟨b, 0, none⟩) (i := 0) (s := 3) k_fd_116_0_0_114 k_sz_114_4 rfl rfl)) ?_
  refine ra_q 1 4 (v := .agg #[.int .i64 x.Num.A, .int .i64 x.Num.B, .int .i64 x.Num.C, .int .i64 x.Num.D]) rfl rfl rfl (by kernel_rfl) (by kernel_rfl) (by kernel_rfl) (ST.sel hS4 [0] rfl rfl) (fun w' hw' => (Y_loadA (B := some ⟨b, 0, none⟩) (i := 0) (cs := [.int .i64 x.Num.A, .int .i64 x.Num.B, .int .i64 x.Num.C, .int .i64 x.Num.D, .int .i64 x.Exp]) (vs := [.int .i64 x.Num.A, .int .i64 x.Num.B, .int .i64 x.Num.C, .int .i64 x.Num.D]) k_ag_114 k_sz_114_4 rfl rfl (ST.cf hw' (i := 0) rfl) rfl rfl)) ?_
  refine ra_q 3 6 (v := pt (some ⟨b, 0, none⟩) 4) rfl rfl rfl (by kernel_rfl) (by kernel_rfl) (by kernel_rfl) (ST.sel hS4 [0] rfl rfl) (fun w' hw' => (Y_fieldAddr (B := some ⟨b, 0, none⟩) (i := 0) (s := 0) k_fd_116_1_4_3 k_sz_3_1 rfl rfl)) ?_
  refine ra_q 4 7 (v := .int .i64 x.Exp) rfl rfl rfl (by kernel_rfl) (by kernel_rfl) (by kernel_rfl) (ST.sel hS4 [0] rfl rfl) (fun w' hw' => (Y_load1 (B := some ⟨b, 0, none⟩) (i := 4) (cs := [.int .i64 x.Num.A, .int .i64 x.Num.B, .int .i64 x.Num.C, .int .i64 x.Num.D, .int .i64 x.Exp]) (v := .int .i64 x.Exp) k_sc_3 rfl rfl (ST.cf hw' (i := 0) rfl) rfl)) ?_
  refine ra_all (rs := [2]) (by kernel_rfl) rfl ?_
  refine ra_c 5 (i := 2) rfl rfl rfl (Yc_func (g := 187) (vs := [.agg #[.int .i64 x.Num.A, .int .i64 x.Num.B, .int .i64 x.Num.C, .int .i64 x.Num.D]]) k_call_187 rfl (mc rfl mn) (c_spec_l1Neg x.Num _  (hS4.inn0 [] rfl) hc)) ?_ ?_
  · rintro _ w_2 ⟨rfl, hd⟩
    have hS5 := hS4.out00 hd
    have hS5 : ST w0 [] _ [⟨some ⟨b, 0, none⟩, 116, [.int .i64 x.Num.A, .int .i64 x.Num.B, .int .i64 x.Num.C, .int .i64 x.Num.D, .int .i64 x.Exp], 5⟩, ⟨some ⟨b1, 0, none⟩, 116, [.int .i64 0, .int .i64 0, .int .i64 0, .int .i64 0, .int .i64 0], 5⟩] [] := hS5
    refine ⟨(ST.sel hS5 [0] rfl rfl), ?_⟩
    refine ra_q 5 8 (v := .agg #[.int .i64 r_1.A, .int .i64 r_1.B, .int .i64 r_1.C, .int .i64 r_1.D, .int .i64 x.Exp]) rfl rfl rfl (by kernel_rfl) (by kernel_rfl) (by kernel_rfl) (ST.sel hS5 [0] rfl rfl) (fun w' hw' => (Y_buildS (zs := [.int .i64 0, .int .i64 0, .int .i64 0, .int .i64 0, .int .i64 0]) (vs := [(0, .agg #[.int .i64 r_1.A, .int .i64 r_1.B, .int .i64 r_1.C, .int .i64 r_1.D]), (1, .int .i64 x.Exp)]) (cs := [.int .i64 r_1.A, .int .i64 r_1.B, .int .i64 r_1.C, .int .i64 r_1.D, .int .i64 x.Exp]) k_pl_116 k_zero_116 rfl (mpc rfl (mpc rfl mpn)) rfl)) ?_
    refine ra_all (rs := [6]) (by kernel_rfl) rfl ?_
    refine ra_s0 (i := 6) rfl rfl rfl (Ys_store (i := 1) (s := 5) (B := some ⟨b1, 0, none⟩) (T' := 116) (v := .agg #[.int .i64 r_1.A, .int .i64 r_1.B, .int .i64 r_1.C, .int .i64 r_1.D, .int .i64 x.Exp]) (vs := [.int .i64 r_1.A, .int .i64 r_1.B, .int .i64 r_1.C, .int .i64 r_1.D, .int .i64 x.Exp]) (k := 0) (cs' := [.int .i64 r_1.A, .int .i64 r_1.B, .int .i64 r_1.C, .int .i64 r_1.D, .int .i64 x.Exp]) hS5 k_sz_116_5 rfl rfl rfl rfl rfl rfl rfl (Nat.le_of_ble_eq_true rfl) rfl rfl) ?_ ?_
    · rintro _ w_3 ⟨rfl, hS6⟩
      have hS6 : ST w0 [] _ [⟨some ⟨b, 0, none⟩, 116, [.int .i64 x.Num.A, .int .i64 x.Num.B, .int .i64 x.Num.C, .int .i64 x.Num.D, .int .i64 x.Exp], 5⟩, ⟨some ⟨b1, 0, none⟩, 116, [.int .i64 r_1.A, .int .i64 r_1.B, .int .i64 r_1.C, .int .i64 r_1.D, .int .i64 x.Exp], 5⟩] [] := hS6
      refine ⟨(ST.sel hS6 [0] rfl rfl), ?_⟩
      refine ra_done (by kernel_rfl) ?_
      refine cw_ret ?_
      obtain rfl := some_inj hF
      exact ret1 Try.results171 (v1 := .agg #[.int .i64 r_1.A, .int .i64 r_1.B, .int .i64 r_1.C, .int .i64 r_1.D, .int .i64 x.Exp]) (resAt_cellA (B := some ⟨b1, 0, none⟩) (i := 0) (cs := [.int .i64 r_1.A, .int .i64 r_1.B, .int .i64 r_1.C, .int .i64 r_1.D, .int .i64 x.Exp]) (vs := [.int .i64 r_1.A, .int .i64 r_1.B, .int .i64 r_1.C, .int .i64 r_1.D, .int .i64 x.Exp]) rfl k_ag_116 k_sz_116_5 (hS6.cf (i := 1) rfl) rfl rfl) ⟨rfl, (ST.subR (R' := []) (hS6.sel [] rfl rfl) (fun _ h => by cases h))⟩
    exact allR_nil
  exact allR_nil

theorem c_spec_l6One (kind : Int)  (w0 : World)  (hS : ST w0 [] w0 [] []) {r_ : List TDyadic} (hF : F_spec_l6One kind = some r_) :
    CV Try.prog 152 #[.int .i64 kind] w0 (fun v w' => ∃ (B : Option Addr) (c : Nat), v = .slice B r_.length c ∧ ST w0 [] w' [⟨B, 116, (r_.flatMap enc_Dyadic), c * 5⟩] []) := by
  unfold F_spec_l6One at hF
  refine cv_of_cw 43 Try.func152 rfl Try.ntmps152 rfl ?_
  refine cw_seq ?_
  refine cw_region ?_
  refine sq 2 rfl rfl (Y_assign (v := .slice none 0 0) rfl rfl) ?_
  refine rw_nil ?_
  refine cw_seq ?_
  refine cw_region ?_
  obtain ⟨r_1, hc, hF⟩ := bind_inv hF
  refine sc 6 rfl rfl (Yc_func (g := 77) (vs := [.int .i64 0]) k_call_77 rfl (mc rfl mn) (c_spec_l2Power 0 _  (hS.inn0 [] rfl) hc)) ?_
  rintro _ w_ ⟨rfl, hd⟩
  have hS1 := hS.out00 hd
  refine sq 7 rfl rfl (Y_buildS (zs := [.int .i64 0, .int .i64 0, .int .i64 0, .int .i64 0, .int .i64 0]) (vs := []) (cs := [.int .i64 0, .int .i64 0, .int .i64 0, .int .i64 0, .int .i64 0]) k_pl_116 k_zero_116 rfl mpn rfl) ?_
  refine ss 3 rfl rfl (Ys_alloc (T := 116) (cs := [.int .i64 0, .int .i64 0, .int .i64 0, .int .i64 0, .int .i64 0]) (m := 5) hS1 k_zero_116 rfl rfl rfl) ?_
  rintro _ w_1 ⟨b, rfl, hS2⟩
  refine ss 4 rfl rfl (Ys_alloc (T := 116) (cs := [.int .i64 0, .int .i64 0, .int .i64 0, .int .i64 0, .int .i64 0]) (m := 5) hS2 k_zero_116 rfl rfl rfl) ?_
  rintro _ w_2 ⟨b1, rfl, hS3⟩
  have hS3 : ST w0 [] _ [⟨some ⟨b, 0, none⟩, 116, [.int .i64 0, .int .i64 0, .int .i64 0, .int .i64 0, .int .i64 0], 5⟩, ⟨some ⟨b1, 0, none⟩, 116, [.int .i64 0, .int .i64 0, .int .i64 0, .int .i64 0, .int .i64 0], 5⟩] [] := hS3
  refine ss0 rfl rfl (Ys_store (i := 0) (s := 5) (B := some ⟨b, 0, none⟩) (T' := 116) (v := .agg #[.int .i64 r_1.Num.A, .int .i64 r_1.Num.B, .int .i64 r_1.Num.C, .int .i64 r_1.Num.D, .int .i64 r_1.Exp]) (vs := [.int .i64 r_1.Num.A, .int .i64 r_1.Num.B, .int .i64 r_1.Num.C, .int .i64 r_1.Num.D, .int .i64 r_1.Exp]) (k := 0) (cs' := [.int .i64 r_1.Num.A, .int .i64 r_1.Num.B, .int .i64 r_1.Num.C, .int .i64 r_1.Num.D, .int .i64 r_1.Exp]) hS3 k_sz_116_5 rfl rfl rfl rfl rfl rfl rfl (Nat.le_of_ble_eq_true rfl) rfl rfl) ?_
  rintro _ w_3 ⟨rfl, hS4⟩
  have hS4 : ST w0 [] _ [⟨some ⟨b, 0, none⟩, 116, [.int .i64 r_1.Num.A, .int .i64 r_1.Num.B, .int .i64 r_1.Num.C, .int .i64 r_1.Num.D, .int .i64 r_1.Exp], 5⟩, ⟨some ⟨b1, 0, none⟩, 116, [.int .i64 0, .int .i64 0, .int .i64 0, .int .i64 0, .int .i64 0], 5⟩] [] := hS4
  refine ss0 rfl rfl (Ys_store (i := 1) (s := 5) (B := some ⟨b1, 0, none⟩) (T' := 116) (v := .agg #[.int .i64 0, .int .i64 0, .int .i64 0, .int .i64 0, .int .i64 0]) (vs := [.int .i64 0, .int .i64 0, .int .i64 0, .int .i64 0, .int .i64 0]) (k := 0) (cs' := [.int .i64 0, .int .i64 0, .int .i64 0, .int .i64 0, .int .i64 0]) hS4 k_sz_116_5 rfl rfl rfl rfl rfl rfl rfl (Nat.le_of_ble_eq_true rfl) rfl rfl) ?_
  rintro _ w_4 ⟨rfl, hS5⟩
  have hS5 : ST w0 [] _ [⟨some ⟨b, 0, none⟩, 116, [.int .i64 r_1.Num.A, .int .i64 r_1.Num.B, .int .i64 r_1.Num.C, .int .i64 r_1.Num.D, .int .i64 r_1.Exp], 5⟩, ⟨some ⟨b1, 0, none⟩, 116, [.int .i64 0, .int .i64 0, .int .i64 0, .int .i64 0, .int .i64 0], 5⟩] [] := hS5
  refine rw_nil ?_
  refine cw_seq ?_
  refine cw_region ?_
  refine sq 8 rfl rfl (Y_buildS (zs := [.int .i64 0, .int .i64 0, .int .i64 0, .int .i64 0]) (vs := [(0, .int .i64 1)]) (cs := [.int .i64 1, .int .i64 0, .int .i64 0, .int .i64 0]) k_pl_114 k_zero_114 rfl (mpc rfl mpn) rfl) ?_
  refine sq 9 rfl rfl (Y_buildS (zs := [.int .i64 0, .int .i64 0, .int .i64 0, .int .i64 0, .int .i64 0]) (vs := [(0, .agg #[.int .i64 1, .int .i64 0, .int .i64 0, .int .i64 0]), (1, .int .i64 1)]) (cs := [.int .i64 1, .int .i64 0, .int .i64 0, .int .i64 0, .int .i64 1]) k_pl_116 k_zero_116 rfl (mpc rfl (mpc rfl mpn)) rfl) ?_
  refine ss 5 rfl rfl (Ys_alloc (T := 116) (cs := [.int .i64 0, .int .i64 0, .int .i64 0, .int .i64 0, .int .i64 0]) (m := 5) hS5 k_zero_116 rfl rfl rfl) ?_
  rintro _ w_5 ⟨b2, rfl, hS6⟩
  have hS6 : ST w0 [] _ [⟨some ⟨b, 0, none⟩, 116, [.int .i64 r_1.Num.A, .int .i64 r_1.Num.B, .int .i64 r_1.Num.C, .int .i64 r_1.Num.D, .int .i64 r_1.Exp], 5⟩, ⟨some ⟨b1, 0, none⟩, 116, [.int .i64 0, .int .i64 0, .int .i64 0, .int .i64 0, .int .i64 0], 5⟩, ⟨some ⟨b2, 0, none⟩, 116, [.int .i64 0, .int .i64 0, .int .i64 0, .int .i64 0, .int .i64 0], 5⟩] [] := hS6
  refine ss0 rfl rfl (Ys_store (i := 2) (s := 5) (B := some ⟨b2, 0, none⟩) (T' := 116) (v := .agg #[.int .i64 1, .int .i64 0, .int .i64 0, .int .i64 0, .int .i64 1]) (vs := [.int .i64 1, .int .i64 0, .int .i64 0, .int .i64 0, .int .i64 1]) (k := 0) (cs' := [.int .i64 1, .int .i64 0, .int .i64 0, .int .i64 0, .int .i64 1]) hS6 k_sz_116_5 rfl rfl rfl rfl rfl rfl rfl (Nat.le_of_ble_eq_true rfl) rfl rfl) ?_
  rintro _ w_6 ⟨rfl, hS7⟩
  have hS7 : ST w0 [] _ [⟨some ⟨b, 0, none⟩, 116, [.int .i64 r_1.Num.A, .int .i64 r_1.Num.B, .int .i64 r_1.Num.C, .int .i64 r_1.Num.D, .int .i64 r_1.Exp], 5⟩, ⟨some ⟨b1, 0, none⟩, 116, [.int .i64 0, .int .i64 0, .int .i64 0, .int .i64 0, .int .i64 0], 5⟩, ⟨some ⟨b2, 0, none⟩, 116, [.int .i64 1, .int .i64 0, .int .i64 0, .int .i64 0, .int .i64 1], 5⟩] [] := hS7
  refine rw_nil ?_
  refine cw_seq ?_
  refine cw_seq ?_
  refine cw_region ?_
  refine sq 10 rfl rfl (Y_move (v := .int .i64 kind) rfl rfl) ?_
  refine rw_nil ?_
  refine cw_block ?_
  refine cw_seq ?_
  refine cw_region ?_
  refine sq 12 rfl rfl (Y_eq (k := .i64) (a := kind) (b := 1) rfl rfl rfl) ?_
  refine sq 11 rfl rfl (Y_assign (v := .bool (kind == 1)) rfl rfl) ?_
  refine rw_nil ?_
  refine cw_cond (b := (kind == 1)) rfl (fun hb => ?_) (fun hb => ?_)
  · skip
    have hF1 := ct hF hb
    refine cw_seq ?_
    obtain ⟨r_2, hc1, hF1⟩ := bind_inv hF1
    refine ra_start (ST.sel hS7 [0, 1, 2] rfl rfl).fn (by kernel_rfl) ?_
    have hS9 := hS7.drew
    refine ra_q 0 13 (v := .agg #[.int .i64 1, .int .i64 0, .int .i64 0, .int .i64 0, .int .i64 1]) rfl rfl rfl (by kernel_rfl) (by kernel_rfl) (by kernel_rfl) (ST.sel hS9 [0, 1, 2] rfl rfl) (fun w' hw' => (Y_loadA (B := some ⟨b2, 0, none⟩) (i := 0) (cs := [.int .i64 1, .int .i64 0, .int .i64 0, .int .i64 0, .int .i64 1]) (vs := [.int .i64 1, .int .i64 0, .int .i64 0, .int .i64 0, .int .i64 1]) k_ag_116 k_sz_116_5 rfl rfl (ST.cf hw' (i := 2) rfl) rfl rfl)) ?_
    refine ra_q 1 14 (v := .agg #[.int .i64 1, .int .i64 0, .int .i64 0, .int .i64 0, .int .i64 1]) rfl rfl rfl (by kernel_rfl) (by kernel_rfl) (by kernel_rfl) (ST.sel hS9 [0, 1, 2] rfl rfl) (fun w' hw' => (Y_loadA (B := some ⟨b2, 0, none⟩) (i := 0) (cs := [.int .i64 1, .int .i64 0, .int .i64 0, .int .i64 0, .int .i64 1]) (vs := [.int .i64 1, .int .i64 0, .int .i64 0, .int .i64 0, .int .i64 1]) k_ag_116 k_sz_116_5 rfl rfl (ST.cf hw' (i := 2) rfl) rfl rfl)) ?_
    refine ra_q 2 15 (v := .agg #[.int .i64 1, .int .i64 0, .int .i64 0, .int .i64 0, .int .i64 1]) rfl rfl rfl (by kernel_rfl) (by kernel_rfl) (by kernel_rfl) (ST.sel hS9 [0, 1, 2] rfl rfl) (fun w' hw' => (Y_loadA (B := some ⟨b2, 0, none⟩) (i := 0) (cs := [.int .i64 1, .int .i64 0, .int .i64 0, .int .i64 0, .int .i64 1]) (vs := [.int .i64 1, .int .i64 0, .int .i64 0, .int .i64 0, .int .i64 1]) k_ag_116 k_sz_116_5 rfl rfl (ST.cf hw' (i := 2) rfl) rfl rfl)) ?_
    refine ra_q 3 16 (v := .agg #[.int .i64 1, .int .i64 0, .int .i64 0, .int .i64 0, .int .i64 1]) rfl rfl rfl (by kernel_rfl) (by kernel_rfl) (by kernel_rfl) (ST.sel hS9 [0, 1, 2] rfl rfl) (fun w' hw' => (Y_loadA (B := some ⟨b2, 0, none⟩) (i := 0) (cs := [.int .i64 1, .int .i64 0, .int .i64 0, .int .i64 0, .int .i64 1]) (vs := [.int .i64 1, .int .i64 0, .int .i64 0, .int .i64 0, .int .i64 1]) k_ag_116 k_sz_116_5 rfl rfl (ST.cf hw' (i := 2) rfl) rfl rfl)) ?_
    refine ra_all (rs := [4]) (by kernel_rfl) rfl ?_
    refine ra_c 17 (i := 4) rfl rfl rfl (Yc_func (g := 171) (vs := [.agg #[.int .i64 1, .int .i64 0, .int .i64 0, .int .i64 0, .int .i64 1]]) k_call_171 rfl (mc rfl mn) (c_spec_l2Neg (TDyadic.mk (TRing.mk 1 0 0 0) 1) _  (hS9.inn0 [] rfl) hc1)) ?_ ?_
    · rintro _ w_7 ⟨rfl, hd1⟩
      have hS10 := hS9.out00 hd1
      have hS10 : ST w0 [] _ [⟨some ⟨b, 0, none⟩, 116, [.int .i64 r_1.Num.A, .int .i64 r_1.Num.B, .int .i64 r_1.Num.C, .int .i64 r_1.Num.D, .int .i64 r_1.Exp], 5⟩, ⟨some ⟨b1, 0, none⟩, 116, [.int .i64 0, .int .i64 0, .int .i64 0, .int .i64 0, .int .i64 0], 5⟩, ⟨some ⟨b2, 0, none⟩, 116, [.int .i64 1, .int .i64 0, .int .i64 0, .int .i64 0, .int .i64 1], 5⟩] [] := hS10
      refine ⟨(ST.sel hS10 [0, 1, 2] rfl rfl), ?_⟩
      refine ra_all (rs := [5]) (by kernel_rfl) rfl ?_
      refine ra_s 18 (i := 5) rfl rfl rfl (Ys_bslice (s := 5) (len := 4) (vs := [(0, .agg #[.int .i64 1, .int .i64 0, .int .i64 0, .int .i64 0, .int .i64 1]), (1, .agg #[.int .i64 1, .int .i64 0, .int .i64 0, .int .i64 0, .int .i64 1]), (2, .agg #[.int .i64 1, .int .i64 0, .int .i64 0, .int .i64 0, .int .i64 1]), (3, .agg #[.int .i64 r_2.Num.A, .int .i64 r_2.Num.B, .int .i64 r_2.Num.C, .int .i64 r_2.Num.D, .int .i64 r_2.Exp])]) (cs := [.int .i64 1, .int .i64 0, .int .i64 0, .int .i64 0, .int .i64 1, .int .i64 1, .int .i64 0, .int .i64 0, .int .i64 0, .int .i64 1, .int .i64 1, .int .i64 0, .int .i64 0, .int .i64 0, .int .i64 1, .int .i64 r_2.Num.A, .int .i64 r_2.Num.B, .int .i64 r_2.Num.C, .int .i64 r_2.Num.D, .int .i64 r_2.Exp]) (zs := [.int .i64 0, .int .i64 0, .int .i64 0, .int .i64 0, .int .i64 0, .int .i64 0, .int .i64 0, .int .i64 0, .int .i64 0, .int .i64 0, .int .i64 0, .int .i64 0, .int .i64 0, .int .i64 0, .int .i64 0, .int .i64 0, .int .i64 0, .int .i64 0, .int .i64 0, .int .i64 0]) (m := 20) hS10 k_sl_26_116 k_sz_116_5 k_zc_116 rfl (mpc rfl (mpc rfl (mpc rfl (mpc rfl mpn)))) rfl rfl rfl (by kernel_rfl) (by kernel_rfl) rfl) ?_ ?_
      · rintro _ w_8 ⟨b3, rfl, hS11⟩
        have hS11 : ST w0 [] _ [⟨some ⟨b, 0, none⟩, 116, [.int .i64 r_1.Num.A, .int .i64 r_1.Num.B, .int .i64 r_1.Num.C, .int .i64 r_1.Num.D, .int .i64 r_1.Exp], 5⟩, ⟨some ⟨b1, 0, none⟩, 116, [.int .i64 0, .int .i64 0, .int .i64 0, .int .i64 0, .int .i64 0], 5⟩, ⟨some ⟨b2, 0, none⟩, 116, [.int .i64 1, .int .i64 0, .int .i64 0, .int .i64 0, .int .i64 1], 5⟩, ⟨some ⟨b3, 0, none⟩, 116, ([(TDyadic.mk (TRing.mk 1 0 0 0) 1), (TDyadic.mk (TRing.mk 1 0 0 0) 1), (TDyadic.mk (TRing.mk 1 0 0 0) 1), r_2].flatMap enc_Dyadic), 4 * 5⟩] [] := hS11
        refine ⟨(ST.sel hS11 [0, 1, 2] rfl rfl), ?_⟩
        refine ra_q 6 2 (v := .slice (some ⟨b3, 0, none⟩) 4 4) rfl rfl rfl (by kernel_rfl) (by kernel_rfl) (by kernel_rfl) (ST.sel hS11 [0, 1, 2] rfl rfl) (fun w' hw' => (Y_assign (v := .slice (some ⟨b3, 0, none⟩) 4 4) rfl rfl)) ?_
        refine ra_done (by kernel_rfl) ?_
        refine cw_ret ?_
        obtain rfl := some_inj hF1
        exact ret1 Try.results152 (v1 := .slice (some ⟨b3, 0, none⟩) 4 4) (resAt_tmp rfl) ⟨some ⟨b3, 0, none⟩, 4, rfl, (ST.subR (R' := []) (hS11.sel [3] rfl rfl) (fun _ h => by cases h))⟩
      exact allR_nil
    exact allR_nil
  · skip
    have hF2 := cf' hF hb
    refine cw_seq ?_
    refine cw_region ?_
    refine sq 20 rfl rfl (Y_eq (k := .i64) (a := kind) (b := 2) rfl rfl rfl) ?_
    refine sq 19 rfl rfl (Y_assign (v := .bool (kind == 2)) rfl rfl) ?_
    refine rw_nil ?_
    refine cw_cond (b := (kind == 2)) rfl (fun hb1 => ?_) (fun hb1 => ?_)
    · skip
      have hF3 := ct hF2 hb1
      refine cw_seq ?_
      refine cw_region ?_
      refine sq 21 rfl rfl (Y_loadA (B := some ⟨b1, 0, none⟩) (i := 0) (cs := [.int .i64 0, .int .i64 0, .int .i64 0, .int .i64 0, .int .i64 0]) (vs := [.int .i64 0, .int .i64 0, .int .i64 0, .int .i64 0, .int .i64 0]) k_ag_116 k_sz_116_5 rfl rfl (hS7.cf (i := 1) rfl) rfl rfl) ?_
      refine sq 22 rfl rfl (Y_loadA (B := some ⟨b, 0, none⟩) (i := 0) (cs := [.int .i64 r_1.Num.A, .int .i64 r_1.Num.B, .int .i64 r_1.Num.C, .int .i64 r_1.Num.D, .int .i64 r_1.Exp]) (vs := [.int .i64 r_1.Num.A, .int .i64 r_1.Num.B, .int .i64 r_1.Num.C, .int .i64 r_1.Num.D, .int .i64 r_1.Exp]) k_ag_116 k_sz_116_5 rfl rfl (hS7.cf (i := 0) rfl) rfl rfl) ?_
      refine sq 23 rfl rfl (Y_loadA (B := some ⟨b, 0, none⟩) (i := 0) (cs := [.int .i64 r_1.Num.A, .int .i64 r_1.Num.B, .int .i64 r_1.Num.C, .int .i64 r_1.Num.D, .int .i64 r_1.Exp]) (vs := [.int .i64 r_1.Num.A, .int .i64 r_1.Num.B, .int .i64 r_1.Num.C, .int .i64 r_1.Num.D, .int .i64 r_1.Exp]) k_ag_116 k_sz_116_5 rfl rfl (hS7.cf (i := 0) rfl) rfl rfl) ?_
      refine sq 24 rfl rfl (Y_loadA (B := some ⟨b1, 0, none⟩) (i := 0) (cs := [.int .i64 0, .int .i64 0, .int .i64 0, .int .i64 0, .int .i64 0]) (vs := [.int .i64 0, .int .i64 0, .int .i64 0, .int .i64 0, .int .i64 0]) k_ag_116 k_sz_116_5 rfl rfl (hS7.cf (i := 1) rfl) rfl rfl) ?_
      refine ss 25 rfl rfl (Ys_bslice (s := 5) (len := 4) (vs := [(0, .agg #[.int .i64 0, .int .i64 0, .int .i64 0, .int .i64 0, .int .i64 0]), (1, .agg #[.int .i64 r_1.Num.A, .int .i64 r_1.Num.B, .int .i64 r_1.Num.C, .int .i64 r_1.Num.D, .int .i64 r_1.Exp]), (2, .agg #[.int .i64 r_1.Num.A, .int .i64 r_1.Num.B, .int .i64 r_1.Num.C, .int .i64 r_1.Num.D, .int .i64 r_1.Exp]), (3, .agg #[.int .i64 0, .int .i64 0, .int .i64 0, .int .i64 0, .int .i64 0])]) (cs := [.int .i64 0, .int .i64 0, .int .i64 0, .int .i64 0, .int .i64 0, .int .i64 r_1.Num.A, .int .i64 r_1.Num.B, .int .i64 r_1.Num.C, .int .i64 r_1.Num.D, .int .i64 r_1.Exp, .int .i64 r_1.Num.A, .int .i64 r_1.Num.B, .int .i64 r_1.Num.C, .int .i64 r_1.Num.D, .int .i64 r_1.Exp, .int .i64 0, .int .i64 0, .int .i64 0, .int .i64 0, .int .i64 0]) (zs := [.int .i64 0, .int .i64 0, .int .i64 0, .int .i64 0, .int .i64 0, .int .i64 0, .int .i64 0, .int .i64 0, .int .i64 0, .int .i64 0, .int .i64 0, .int .i64 0, .int .i64 0, .int .i64 0, .int .i64 0, .int .i64 0, .int .i64 0, .int .i64 0, .int .i64 0, .int .i64 0]) (m := 20) hS7 k_sl_26_116 k_sz_116_5 k_zc_116 rfl (mpc rfl (mpc rfl (mpc rfl (mpc rfl mpn)))) rfl rfl rfl (by kernel_rfl) (by kernel_rfl) rfl) ?_
      rintro _ w_9 ⟨b4, rfl, hS12⟩
      have hS12 : ST w0 [] _ [⟨some ⟨b, 0, none⟩, 116, [.int .i64 r_1.Num.A, .int .i64 r_1.Num.B, .int .i64 r_1.Num.C, .int .i64 r_1.Num.D, .int .i64 r_1.Exp], 5⟩, ⟨some ⟨b1, 0, none⟩, 116, [.int .i64 0, .int .i64 0, .int .i64 0, .int .i64 0, .int .i64 0], 5⟩, ⟨some ⟨b2, 0, none⟩, 116, [.int .i64 1, .int .i64 0, .int .i64 0, .int .i64 0, .int .i64 1], 5⟩, ⟨some ⟨b4, 0, none⟩, 116, ([(TDyadic.mk (TRing.mk 0 0 0 0) 0), r_1, r_1, (TDyadic.mk (TRing.mk 0 0 0 0) 0)].flatMap enc_Dyadic), 4 * 5⟩] [] := hS12
      refine sq 2 rfl rfl (Y_assign (v := .slice (some ⟨b4, 0, none⟩) 4 4) rfl rfl) ?_
      refine rw_nil ?_
      refine cw_ret ?_
      obtain rfl := some_inj hF3
      exact ret1 Try.results152 (v1 := .slice (some ⟨b4, 0, none⟩) 4 4) (resAt_tmp rfl) ⟨some ⟨b4, 0, none⟩, 4, rfl, (ST.subR (R' := []) (hS12.sel [3] rfl rfl) (fun _ h => by cases h))⟩
    · skip
      have hF4 := cf' hF2 hb1
      refine cw_seq ?_
      refine cw_region ?_
      refine sq 27 rfl rfl (Y_eq (k := .i64) (a := kind) (b := 3) rfl rfl rfl) ?_
      refine sq 26 rfl rfl (Y_assign (v := .bool (kind == 3)) rfl rfl) ?_
      refine rw_nil ?_
      refine cw_cond (b := (kind == 3)) rfl (fun hb2 => ?_) (fun hb2 => ?_)
      · skip
        have hF5 := ct hF4 hb2
        refine cw_seq ?_
        obtain ⟨r_3, hc2, hF5⟩ := bind_inv hF5
        obtain ⟨r_4, hc3, hF5⟩ := bind_inv hF5
        refine ra_start (ST.sel hS7 [0, 1, 2] rfl rfl).fn (by kernel_rfl) ?_
        have hS15 := hS7.drew
        refine ra_q 0 28 (v := .agg #[.int .i64 0, .int .i64 0, .int .i64 0, .int .i64 0, .int .i64 0]) rfl rfl rfl (by kernel_rfl) (by kernel_rfl) (by kernel_rfl) (ST.sel hS15 [0, 1, 2] rfl rfl) (fun w' hw' => (Y_loadA (B := some ⟨b1, 0, none⟩) (i := 0) (cs := [.int .i64 0, .int .i64 0, .int .i64 0, .int .i64 0, .int .i64 0]) (vs := [.int .i64 0, .int .i64 0, .int .i64 0, .int .i64 0, .int .i64 0]) k_ag_116 k_sz_116_5 rfl rfl (ST.cf hw' (i := 1) rfl) rfl rfl)) ?_
        refine ra_q 3 31 (v := .agg #[.int .i64 0, .int .i64 0, .int .i64 0, .int .i64 0, .int .i64 0]) rfl rfl rfl (by kernel_rfl) (by kernel_rfl) (by kernel_rfl) (ST.sel hS15 [0, 1, 2] rfl rfl) (fun w' hw' => (Y_loadA (B := some ⟨b1, 0, none⟩) (i := 0) (cs := [.int .i64 0, .int .i64 0, .int .i64 0, .int .i64 0, .int .i64 0]) (vs := [.int .i64 0, .int .i64 0, .int .i64 0, .int .i64 0, .int .i64 0]) k_ag_116 k_sz_116_5 rfl rfl (ST.cf hw' (i := 1) rfl) rfl rfl)) ?_
        refine ra_all (rs := [1]) (by kernel_rfl) rfl ?_
        refine ra_c 29 (i := 1) rfl rfl rfl (Yc_func (g := 77) (vs := [.int .i64 6]) k_call_77 rfl (mc rfl mn) (c_spec_l2Power 6 _  (hS15.inn0 [] rfl) hc2)) ?_ ?_
        · rintro _ w_10 ⟨rfl, hd2⟩
          have hS16 := hS15.out00 hd2
          have hS16 : ST w0 [] _ [⟨some ⟨b, 0, none⟩, 116, [.int .i64 r_1.Num.A, .int .i64 r_1.Num.B, .int .i64 r_1.Num.C, .int .i64 r_1.Num.D, .int .i64 r_1.Exp], 5⟩, ⟨some ⟨b1, 0, none⟩, 116, [.int .i64 0, .int .i64 0, .int .i64 0, .int .i64 0, .int .i64 0], 5⟩, ⟨some ⟨b2, 0, none⟩, 116, [.int .i64 1, .int .i64 0, .int .i64 0, .int .i64 0, .int .i64 1], 5⟩] [] := hS16
          refine ⟨(ST.sel hS16 [0, 1, 2] rfl rfl), ?_⟩
          refine ra_all (rs := [2]) (by kernel_rfl) rfl ?_
          refine ra_c 30 (i := 2) rfl rfl rfl (Yc_func (g := 77) (vs := [.int .i64 2]) k_call_77 rfl (mc rfl mn) (c_spec_l2Power 2 _  (hS16.inn0 [] rfl) hc3)) ?_ ?_
          · rintro _ w_11 ⟨rfl, hd3⟩
            have hS17 := hS16.out00 hd3
            have hS17 : ST w0 [] _ [⟨some ⟨b, 0, none⟩, 116, [.int .i64 r_1.Num.A, .int .i64 r_1.Num.B, .int .i64 r_1.Num.C, .int .i64 r_1.Num.D, .int .i64 r_1.Exp], 5⟩, ⟨some ⟨b1, 0, none⟩, 116, [.int .i64 0, .int .i64 0, .int .i64 0, .int .i64 0, .int .i64 0], 5⟩, ⟨some ⟨b2, 0, none⟩, 116, [.int .i64 1, .int .i64 0, .int .i64 0, .int .i64 0, .int .i64 1], 5⟩] [] := hS17
            refine ⟨(ST.sel hS17 [0, 1, 2] rfl rfl), ?_⟩
            refine ra_all (rs := [4]) (by kernel_rfl) rfl ?_
            refine ra_s 32 (i := 4) rfl rfl rfl (Ys_bslice (s := 5) (len := 4) (vs := [(0, .agg #[.int .i64 0, .int .i64 0, .int .i64 0, .int .i64 0, .int .i64 0]), (1, .agg #[.int .i64 r_3.Num.A, .int .i64 r_3.Num.B, .int .i64 r_3.Num.C, .int .i64 r_3.Num.D, .int .i64 r_3.Exp]), (2, .agg #[.int .i64 r_4.Num.A, .int .i64 r_4.Num.B, .int .i64 r_4.Num.C, .int .i64 r_4.Num.D, .int .i64 r_4.Exp]), (3, .agg #[.int .i64 0, .int .i64 0, .int .i64 0, .int .i64 0, .int .i64 0])]) (cs := [.int .i64 0, .int .i64 0, .int .i64 0, .int .i64 0, .int .i64 0, .int .i64 r_3.Num.A, .int .i64 r_3.Num.B, .int .i64 r_3.Num.C, .int .i64 r_3.Num.D, .int .i64 r_3.Exp, .int .i64 r_4.Num.A, .int .i64 r_4.Num.B, .int .i64 r_4.Num.C, .int .i64 r_4.Num.D, .int .i64 r_4.Exp, .int .i64 0, .int .i64 0, .int .i64 0, .int .i64 0, .int .i64 0]) (zs := [.int .i64 0, .int .i64 0, .int .i64 0, .int .i64 0, .int .i64 0, .int .i64 0, .int .i64 0, .int .i64 0, .int .i64 0, .int .i64 0, .int .i64 0, .int .i64 0, .int .i64 0, .int .i64 0, .int .i64 0, .int .i64 0, .int .i64 0, .int .i64 0, .int .i64 0, .int .i64 0]) (m := 20) hS17 k_sl_26_116 k_sz_116_5 k_zc_116 rfl (mpc rfl (mpc rfl (mpc rfl (mpc rfl mpn)))) rfl rfl rfl (by kernel_rfl) (by kernel_rfl) rfl) ?_ ?_
            · rintro _ w_12 ⟨b5, rfl, hS18⟩
              have hS18 : ST w0 [] _ [⟨some ⟨b, 0, none⟩, 116, [.int .i64 r_1.Num.A, .int .i64 r_1.Num.B, .int .i64 r_1.Num.C, .int .i64 r_1.Num.D, .int .i64 r_1.Exp], 5⟩, ⟨some ⟨b1, 0, none⟩, 116, [.int .i64 0, .int .i64 0, .int .i64 0, .int .i64 0, .int .i64 0], 5⟩, ⟨some ⟨b2, 0, none⟩, 116, [.int .i64 1, .int .i64 0, .int .i64 0, .int .i64 0, .int .i64 1], 5⟩, ⟨some ⟨b5, 0, none⟩, 116, ([(TDyadic.mk (TRing.mk 0 0 0 0) 0), r_3, r_4, (TDyadic.mk (TRing.mk 0 0 0 0) 0)].flatMap enc_Dyadic), 4 * 5⟩] [] := hS18
              refine ⟨(ST.sel hS18 [0, 1, 2] rfl rfl), ?_⟩
              refine ra_q 5 2 (v := .slice (some ⟨b5, 0, none⟩) 4 4) rfl rfl rfl (by kernel_rfl) (by kernel_rfl) (by kernel_rfl) (ST.sel hS18 [0, 1, 2] rfl rfl) (fun w' hw' => (Y_assign (v := .slice (some ⟨b5, 0, none⟩) 4 4) rfl rfl)) ?_
              refine ra_done (by kernel_rfl) ?_
              refine cw_ret ?_
              obtain rfl := some_inj hF5
              exact ret1 Try.results152 (v1 := .slice (some ⟨b5, 0, none⟩) 4 4) (resAt_tmp rfl) ⟨some ⟨b5, 0, none⟩, 4, rfl, (ST.subR (R' := []) (hS18.sel [3] rfl rfl) (fun _ h => by cases h))⟩
            exact allR_nil
          exact allR_nil
        exact allR_nil
      · skip
        have hF6 := cf' hF4 hb2
        refine cw_skip ?_
        refine cw_seq ?_
        obtain ⟨x, hx, hF6⟩ := bind_inv hF6
        obtain ⟨r_5, hc4, hF6⟩ := bind_inv hF6
        refine ra_start (ST.sel hS7 [0, 1, 2] rfl rfl).fn (by kernel_rfl) ?_
        have hS20 := hS7.drew
        refine ra_q 0 33 (v := .agg #[.int .i64 r_1.Num.A, .int .i64 r_1.Num.B, .int .i64 r_1.Num.C, .int .i64 r_1.Num.D, .int .i64 r_1.Exp]) rfl rfl rfl (by kernel_rfl) (by kernel_rfl) (by kernel_rfl) (ST.sel hS20 [0, 1, 2] rfl rfl) (fun w' hw' => (Y_loadA (B := some ⟨b, 0, none⟩) (i := 0) (cs := [.int .i64 r_1.Num.A, .int .i64 r_1.Num.B, .int .i64 r_1.Num.C, .int .i64 r_1.Num.D, .int .i64 r_1.Exp]) (vs := [.int .i64 r_1.Num.A, .int .i64 r_1.Num.B, .int .i64 r_1.Num.C, .int .i64 r_1.Num.D, .int .i64 r_1.Exp]) k_ag_116 k_sz_116_5 rfl rfl (ST.cf hw' (i := 0) rfl) rfl rfl)) ?_
        refine ra_q 1 34 (v := .agg #[.int .i64 0, .int .i64 0, .int .i64 0, .int .i64 0, .int .i64 0]) rfl rfl rfl (by kernel_rfl) (by kernel_rfl) (by kernel_rfl) (ST.sel hS20 [0, 1, 2] rfl rfl) (fun w' hw' => (Y_loadA (B := some ⟨b1, 0, none⟩) (i := 0) (cs := [.int .i64 0, .int .i64 0, .int .i64 0, .int .i64 0, .int .i64 0]) (vs := [.int .i64 0, .int .i64 0, .int .i64 0, .int .i64 0, .int .i64 0]) k_ag_116 k_sz_116_5 rfl rfl (ST.cf hw' (i := 1) rfl) rfl rfl)) ?_
        refine ra_q 2 35 (v := .agg #[.int .i64 0, .int .i64 0, .int .i64 0, .int .i64 0, .int .i64 0]) rfl rfl rfl (by kernel_rfl) (by kernel_rfl) (by kernel_rfl) (ST.sel hS20 [0, 1, 2] rfl rfl) (fun w' hw' => (Y_loadA (B := some ⟨b1, 0, none⟩) (i := 0) (cs := [.int .i64 0, .int .i64 0, .int .i64 0, .int .i64 0, .int .i64 0]) (vs := [.int .i64 0, .int .i64 0, .int .i64 0, .int .i64 0, .int .i64 0]) k_ag_116 k_sz_116_5 rfl rfl (ST.cf hw' (i := 1) rfl) rfl rfl)) ?_
        refine ra_q 4 37 (v := .int .i64 kind) rfl rfl rfl (by kernel_rfl) (by kernel_rfl) (by kernel_rfl) (ST.sel hS20 [0, 1, 2] rfl rfl) (fun w' hw' => (Y_move (v := .int .i64 kind) rfl rfl)) ?_
        refine ra_q 5 38 (v := .int .i64 (IntKind.i64.wrap (kind - 4))) rfl rfl rfl (by kernel_rfl) (by kernel_rfl) (by kernel_rfl) (ST.sel hS20 [0, 1, 2] rfl rfl) (fun w' hw' => (Y_sub (k := .i64) (a := kind) (b := 4) rfl rfl rfl)) ?_
        refine ra_all (rs := [3]) (by kernel_rfl) rfl ?_
        refine ra_s 36 (i := 3) rfl rfl rfl (Ys_bslice (s := 1) (len := 5) (vs := [(0, .int .i64 4), (1, .int .i64 2), (2, .int .i64 6), (3, .int .i64 1), (4, .int .i64 7)]) (cs := [.int .i64 4, .int .i64 2, .int .i64 6, .int .i64 1, .int .i64 7]) (zs := [.int .i64 0, .int .i64 0, .int .i64 0, .int .i64 0, .int .i64 0]) (m := 5) hS20 k_sl_41_3 k_sz_3_1 k_zc_3 rfl (mpc rfl (mpc rfl (mpc rfl (mpc rfl (mpc rfl mpn))))) rfl rfl rfl (by kernel_rfl) (by kernel_rfl) rfl) ?_ ?_
        · rintro _ w_13 ⟨b6, rfl, hS21⟩
          have hS21 : ST w0 [] _ [⟨some ⟨b, 0, none⟩, 116, [.int .i64 r_1.Num.A, .int .i64 r_1.Num.B, .int .i64 r_1.Num.C, .int .i64 r_1.Num.D, .int .i64 r_1.Exp], 5⟩, ⟨some ⟨b1, 0, none⟩, 116, [.int .i64 0, .int .i64 0, .int .i64 0, .int .i64 0, .int .i64 0], 5⟩, ⟨some ⟨b2, 0, none⟩, 116, [.int .i64 1, .int .i64 0, .int .i64 0, .int .i64 0, .int .i64 1], 5⟩, ⟨some ⟨b6, 0, none⟩, 3, ([4, 2, 6, 1, 7].flatMap encI), 5 * 1⟩] [] := hS21
          refine ⟨(ST.sel hS21 [0, 1, 2] rfl rfl), ?_⟩
          refine ra_all (rs := [6]) (by kernel_rfl) rfl ?_
          refine ra_y 39 (i := 6) (v := pt (some ⟨b6, 0, none⟩) ((IntKind.i64.wrap (kind - 4)).toNat * 1)) rfl rfl rfl (Y_index (B := some ⟨b6, 0, none⟩) (m := 5) (c := 5) (k := .i64) (i := (IntKind.i64.wrap (kind - 4))) k_sl_41_3 k_sz_3_1 rfl rfl rfl (gi_isSome encI_len rfl (hS21.cf (i := 3) rfl) hx) (getI_nn hx) (getI_ltI hx rfl)) (ST.sel hS21 [0, 1, 2] rfl rfl) ?_ ?_
          · skip
            refine ra_all (rs := [7]) (by kernel_rfl) rfl ?_
            refine ra_y 40 (i := 7) (v := .int .i64 x) rfl rfl rfl (Y_load1 (B := some ⟨b6, 0, none⟩) (i := (IntKind.i64.wrap (kind - 4)).toNat * 1) (cs := ([4, 2, 6, 1, 7].flatMap encI)) (v := .int .i64 x) k_sc_3 rfl rfl (hS21.cf (i := 3) rfl) (gi_at0 encI_len hx rfl)) (ST.sel hS21 [0, 1, 2] rfl rfl) ?_ ?_
            · skip
              refine ra_all (rs := [8]) (by kernel_rfl) rfl ?_
              refine ra_c 41 (i := 8) rfl rfl rfl (Yc_func (g := 77) (vs := [.int .i64 x]) k_call_77 rfl (mc rfl mn) (c_spec_l2Power x _  (hS21.inn0 [] rfl) hc4)) ?_ ?_
              · rintro _ w_14 ⟨rfl, hd4⟩
                have hS22 := hS21.out00 hd4
                have hS22 : ST w0 [] _ [⟨some ⟨b, 0, none⟩, 116, [.int .i64 r_1.Num.A, .int .i64 r_1.Num.B, .int .i64 r_1.Num.C, .int .i64 r_1.Num.D, .int .i64 r_1.Exp], 5⟩, ⟨some ⟨b1, 0, none⟩, 116, [.int .i64 0, .int .i64 0, .int .i64 0, .int .i64 0, .int .i64 0], 5⟩, ⟨some ⟨b2, 0, none⟩, 116, [.int .i64 1, .int .i64 0, .int .i64 0, .int .i64 0, .int .i64 1], 5⟩, ⟨some ⟨b6, 0, none⟩, 3, ([4, 2, 6, 1, 7].flatMap encI), 5 * 1⟩] [] := hS22
                refine ⟨(ST.sel hS22 [0, 1, 2] rfl rfl), ?_⟩
                refine ra_all (rs := [9]) (by kernel_rfl) rfl ?_
                refine ra_s 42 (i := 9) rfl rfl rfl (Ys_bslice (s := 5) (len := 4) (vs := [(0, .agg #[.int .i64 r_1.Num.A, .int .i64 r_1.Num.B, .int .i64 r_1.Num.C, .int .i64 r_1.Num.D, .int .i64 r_1.Exp]), (1, .agg #[.int .i64 0, .int .i64 0, .int .i64 0, .int .i64 0, .int .i64 0]), (2, .agg #[.int .i64 0, .int .i64 0, .int .i64 0, .int .i64 0, .int .i64 0]), (3, .agg #[.int .i64 r_5.Num.A, .int .i64 r_5.Num.B, .int .i64 r_5.Num.C, .int .i64 r_5.Num.D, .int .i64 r_5.Exp])]) (cs := [.int .i64 r_1.Num.A, .int .i64 r_1.Num.B, .int .i64 r_1.Num.C, .int .i64 r_1.Num.D, .int .i64 r_1.Exp, .int .i64 0, .int .i64 0, .int .i64 0, .int .i64 0, .int .i64 0, .int .i64 0, .int .i64 0, .int .i64 0, .int .i64 0, .int .i64 0, .int .i64 r_5.Num.A, .int .i64 r_5.Num.B, .int .i64 r_5.Num.C, .int .i64 r_5.Num.D, .int .i64 r_5.Exp]) (zs := [.int .i64 0, .int .i64 0, .int .i64 0, .int .i64 0, .int .i64 0, .int .i64 0, .int .i64 0, .int .i64 0, .int .i64 0, .int .i64 0, .int .i64 0, .int .i64 0, .int .i64 0, .int .i64 0, .int .i64 0, .int .i64 0, .int .i64 0, .int .i64 0, .int .i64 0, .int .i64 0]) (m := 20) hS22 k_sl_26_116 k_sz_116_5 k_zc_116 rfl (mpc rfl (mpc rfl (mpc rfl (mpc rfl mpn)))) rfl rfl rfl (by kernel_rfl) (by kernel_rfl) rfl) ?_ ?_
                · rintro _ w_15 ⟨b7, rfl, hS23⟩
                  have hS23 : ST w0 [] _ [⟨some ⟨b, 0, none⟩, 116, [.int .i64 r_1.Num.A, .int .i64 r_1.Num.B, .int .i64 r_1.Num.C, .int .i64 r_1.Num.D, .int .i64 r_1.Exp], 5⟩, ⟨some ⟨b1, 0, none⟩, 116, [.int .i64 0, .int .i64 0, .int .i64 0, .int .i64 0, .int .i64 0], 5⟩, ⟨some ⟨b2, 0, none⟩, 116, [.int .i64 1, .int .i64 0, .int .i64 0, .int .i64 0, .int .i64 1], 5⟩, ⟨some ⟨b6, 0, none⟩, 3, ([4, 2, 6, 1, 7].flatMap encI), 5 * 1⟩, ⟨some ⟨b7, 0, none⟩, 116, ([r_1, (TDyadic.mk (TRing.mk 0 0 0 0) 0), (TDyadic.mk (TRing.mk 0 0 0 0) 0), r_5].flatMap enc_Dyadic), 4 * 5⟩] [] := hS23
                  refine ⟨(ST.sel hS23 [0, 1, 2] rfl rfl), ?_⟩
                  refine ra_q 10 2 (v := .slice (some ⟨b7, 0, none⟩) 4 4) rfl rfl rfl (by kernel_rfl) (by kernel_rfl) (by kernel_rfl) (ST.sel hS23 [0, 1, 2] rfl rfl) (fun w' hw' => (Y_assign (v := .slice (some ⟨b7, 0, none⟩) 4 4) rfl rfl)) ?_
                  refine ra_done (by kernel_rfl) ?_
                  refine cw_ret ?_
                  obtain rfl := some_inj hF6
                  exact ret1 Try.results152 (v1 := .slice (some ⟨b7, 0, none⟩) 4 4) (resAt_tmp rfl) ⟨some ⟨b7, 0, none⟩, 4, rfl, (ST.subR (R' := []) (hS23.sel [4] rfl rfl) (fun _ h => by cases h))⟩
                exact allR_nil
              exact allR_nil
            exact allR_nil
          exact allR_nil
        exact allR_nil

theorem c_spec_l6Cell (n : Int) (g : TGate) (row : Int) (col : Int)  (w0 : World)  (hS : ST w0 [] w0 [] []) {r_ : TDyadic} (hF : F_spec_l6Cell n g row col = some r_) :
    CV Try.prog 118 #[.int .i64 n, .agg #[.int .i64 g.Kind, .int .i64 g.A, .int .i64 g.B], .int .i64 row, .int .i64 col] w0 (fun v w' => v = .agg #[.int .i64 r_.Num.A, .int .i64 r_.Num.B, .int .i64 r_.Num.C, .int .i64 r_.Num.D, .int .i64 r_.Exp] ∧ ST w0 [] w' [] []) := by
  unfold F_spec_l6Cell at hF
  refine cv_of_cw 119 Try.func118 rfl Try.ntmps118 rfl ?_
  refine cw_seq ?_
  refine cw_region ?_
  refine ss 5 rfl rfl (Ys_box (T := 109) (v := .agg #[.int .i64 g.Kind, .int .i64 g.A, .int .i64 g.B]) (cs := [.int .i64 g.Kind, .int .i64 g.A, .int .i64 g.B]) (m := 3) hS rfl rfl rfl rfl) ?_
  rintro _ w_ ⟨b, rfl, hS1⟩
  refine ss 8 rfl rfl (Ys_alloc (T := 116) (cs := [.int .i64 0, .int .i64 0, .int .i64 0, .int .i64 0, .int .i64 0]) (m := 5) hS1 k_zero_116 rfl rfl rfl) ?_
  rintro _ w_1 ⟨b1, rfl, hS2⟩
  have hS2 : ST w0 [] _ [⟨some ⟨b, 0, none⟩, 109, [.int .i64 g.Kind, .int .i64 g.A, .int .i64 g.B], 3⟩, ⟨some ⟨b1, 0, none⟩, 116, [.int .i64 0, .int .i64 0, .int .i64 0, .int .i64 0, .int .i64 0], 5⟩] [] := hS2
  refine rw_nil ?_
  refine cw_seq ?_
  refine cw_region ?_
  obtain ⟨r_1, hc, hF⟩ := bind_inv hF
  refine sc 12 rfl rfl (Yc_func (g := 77) (vs := [.int .i64 0]) k_call_77 rfl (mc rfl mn) (c_spec_l2Power 0 _  (hS2.inn0 [] rfl) hc)) ?_
  rintro _ w_2 ⟨rfl, hd⟩
  have hS3 := hS2.out00 hd
  have hS3 : ST w0 [] _ [⟨some ⟨b, 0, none⟩, 109, [.int .i64 g.Kind, .int .i64 g.A, .int .i64 g.B], 3⟩, ⟨some ⟨b1, 0, none⟩, 116, [.int .i64 0, .int .i64 0, .int .i64 0, .int .i64 0, .int .i64 0], 5⟩] [] := hS3
  refine sq 13 rfl rfl (Y_buildS (zs := [.int .i64 0, .int .i64 0, .int .i64 0, .int .i64 0, .int .i64 0]) (vs := []) (cs := [.int .i64 0, .int .i64 0, .int .i64 0, .int .i64 0, .int .i64 0]) k_pl_116 k_zero_116 rfl mpn rfl) ?_
  refine ss 9 rfl rfl (Ys_alloc (T := 116) (cs := [.int .i64 0, .int .i64 0, .int .i64 0, .int .i64 0, .int .i64 0]) (m := 5) hS3 k_zero_116 rfl rfl rfl) ?_
  rintro _ w_3 ⟨b2, rfl, hS4⟩
  have hS4 : ST w0 [] _ [⟨some ⟨b, 0, none⟩, 109, [.int .i64 g.Kind, .int .i64 g.A, .int .i64 g.B], 3⟩, ⟨some ⟨b1, 0, none⟩, 116, [.int .i64 0, .int .i64 0, .int .i64 0, .int .i64 0, .int .i64 0], 5⟩, ⟨some ⟨b2, 0, none⟩, 116, [.int .i64 0, .int .i64 0, .int .i64 0, .int .i64 0, .int .i64 0], 5⟩] [] := hS4
  refine ss 10 rfl rfl (Ys_alloc (T := 116) (cs := [.int .i64 0, .int .i64 0, .int .i64 0, .int .i64 0, .int .i64 0]) (m := 5) hS4 k_zero_116 rfl rfl rfl) ?_
  rintro _ w_4 ⟨b3, rfl, hS5⟩
  have hS5 : ST w0 [] _ [⟨some ⟨b, 0, none⟩, 109, [.int .i64 g.Kind, .int .i64 g.A, .int .i64 g.B], 3⟩, ⟨some ⟨b1, 0, none⟩, 116, [.int .i64 0, .int .i64 0, .int .i64 0, .int .i64 0, .int .i64 0], 5⟩, ⟨some ⟨b2, 0, none⟩, 116, [.int .i64 0, .int .i64 0, .int .i64 0, .int .i64 0, .int .i64 0], 5⟩, ⟨some ⟨b3, 0, none⟩, 116, [.int .i64 0, .int .i64 0, .int .i64 0, .int .i64 0, .int .i64 0], 5⟩] [] := hS5
  refine ss0 rfl rfl (Ys_store (i := 2) (s := 5) (B := some ⟨b2, 0, none⟩) (T' := 116) (v := .agg #[.int .i64 r_1.Num.A, .int .i64 r_1.Num.B, .int .i64 r_1.Num.C, .int .i64 r_1.Num.D, .int .i64 r_1.Exp]) (vs := [.int .i64 r_1.Num.A, .int .i64 r_1.Num.B, .int .i64 r_1.Num.C, .int .i64 r_1.Num.D, .int .i64 r_1.Exp]) (k := 0) (cs' := [.int .i64 r_1.Num.A, .int .i64 r_1.Num.B, .int .i64 r_1.Num.C, .int .i64 r_1.Num.D, .int .i64 r_1.Exp]) hS5 k_sz_116_5 rfl rfl rfl rfl rfl rfl rfl (Nat.le_of_ble_eq_true rfl) rfl rfl) ?_
  rintro _ w_5 ⟨rfl, hS6⟩
  have hS6 : ST w0 [] _ [⟨some ⟨b, 0, none⟩, 109, [.int .i64 g.Kind, .int .i64 g.A, .int .i64 g.B], 3⟩, ⟨some ⟨b1, 0, none⟩, 116, [.int .i64 0, .int .i64 0, .int .i64 0, .int .i64 0, .int .i64 0], 5⟩, ⟨some ⟨b2, 0, none⟩, 116, [.int .i64 r_1.Num.A, .int .i64 r_1.Num.B, .int .i64 r_1.Num.C, .int .i64 r_1.Num.D, .int .i64 r_1.Exp], 5⟩, ⟨some ⟨b3, 0, none⟩, 116, [.int .i64 0, .int .i64 0, .int .i64 0, .int .i64 0, .int .i64 0], 5⟩] [] := hS6
  refine ss0 rfl rfl (Ys_store (i := 3) (s := 5) (B := some ⟨b3, 0, none⟩) (T' := 116) (v := .agg #[.int .i64 0, .int .i64 0, .int .i64 0, .int .i64 0, .int .i64 0]) (vs := [.int .i64 0, .int .i64 0, .int .i64 0, .int .i64 0, .int .i64 0]) (k := 0) (cs' := [.int .i64 0, .int .i64 0, .int .i64 0, .int .i64 0, .int .i64 0]) hS6 k_sz_116_5 rfl rfl rfl rfl rfl rfl rfl (Nat.le_of_ble_eq_true rfl) rfl rfl) ?_
  rintro _ w_6 ⟨rfl, hS7⟩
  have hS7 : ST w0 [] _ [⟨some ⟨b, 0, none⟩, 109, [.int .i64 g.Kind, .int .i64 g.A, .int .i64 g.B], 3⟩, ⟨some ⟨b1, 0, none⟩, 116, [.int .i64 0, .int .i64 0, .int .i64 0, .int .i64 0, .int .i64 0], 5⟩, ⟨some ⟨b2, 0, none⟩, 116, [.int .i64 r_1.Num.A, .int .i64 r_1.Num.B, .int .i64 r_1.Num.C, .int .i64 r_1.Num.D, .int .i64 r_1.Exp], 5⟩, ⟨some ⟨b3, 0, none⟩, 116, [.int .i64 0, .int .i64 0, .int .i64 0, .int .i64 0, .int .i64 0], 5⟩] [] := hS7
  refine rw_nil ?_
  refine cw_seq ?_
  refine cw_region ?_
  refine sq 14 rfl rfl (Y_move (v := .int .i64 col) rfl rfl) ?_
  refine sq 11 rfl rfl (Y_assign (v := .int .i64 col) rfl rfl) ?_
  refine rw_nil ?_
  refine cw_seq ?_
  obtain ⟨z, hz, hF1⟩ := bind_inv hF
  refine cw_mid (fun f w => ∃ (A : Int) (B : Int) (C : Int) (D : Int) (Exp : Int) (to_ : Int), .inl (A, B, C, D, Exp, to_) = z ∧ FF f [(2, .int .i64 row), (8, pt (some ⟨b1, 0, none⟩) 0), (9, pt (some ⟨b2, 0, none⟩) 0), (10, pt (some ⟨b3, 0, none⟩) 0), (11, .int .i64 to_)] ∧ ST w0 [] w [⟨some ⟨b1, 0, none⟩, 116, [.int .i64 0, .int .i64 0, .int .i64 0, .int .i64 0, .int .i64 0], 5⟩, ⟨some ⟨b2, 0, none⟩, 116, [.int .i64 A, .int .i64 B, .int .i64 C, .int .i64 D, .int .i64 Exp], 5⟩, ⟨some ⟨b3, 0, none⟩, 116, [.int .i64 0, .int .i64 0, .int .i64 0, .int .i64 0, .int .i64 0], 5⟩] []) ?_ ?_
  · skip
    refine cw_seq ?_
    refine cw_region ?_
    refine sq 15 rfl rfl (Y_fieldAddr (B := some ⟨b, 0, none⟩) (i := 0) (s := 0) k_fd_109_0_0_3 k_sz_3_1 rfl rfl) ?_
    refine sq 16 rfl rfl (Y_load1 (B := some ⟨b, 0, none⟩) (i := 0) (cs := [.int .i64 g.Kind, .int .i64 g.A, .int .i64 g.B]) (v := .int .i64 g.Kind) k_sc_3 rfl rfl (hS7.cf (i := 0) rfl) rfl) ?_
    refine rw_nil ?_
    refine cw_block ?_
    refine cw_seq ?_
    refine cw_region ?_
    refine sq 48 rfl rfl (Y_eq (k := .i64) (a := g.Kind) (b := 12) rfl rfl rfl) ?_
    refine sq 47 rfl rfl (Y_assign (v := .bool (g.Kind == 12)) rfl rfl) ?_
    refine rw_nil ?_
    refine cw_cond (b := (g.Kind == 12)) rfl (fun hb => ?_) (fun hb => ?_)
    · skip
      have hF2 := ct hz hb
      refine cw_region ?_
      obtain ⟨r_2, hc1, hF2⟩ := bind_inv hF2
      refine sc 49 rfl rfl (Yc_func (g := 77) (vs := [.int .i64 1]) k_call_77 rfl (mc rfl mn) (c_spec_l2Power 1 _  (hS7.inn0 [] rfl) hc1)) ?_
      rintro _ w_7 ⟨rfl, hd1⟩
      have hS9 := hS7.out00 hd1
      have hS9 : ST w0 [] _ [⟨some ⟨b, 0, none⟩, 109, [.int .i64 g.Kind, .int .i64 g.A, .int .i64 g.B], 3⟩, ⟨some ⟨b1, 0, none⟩, 116, [.int .i64 0, .int .i64 0, .int .i64 0, .int .i64 0, .int .i64 0], 5⟩, ⟨some ⟨b2, 0, none⟩, 116, [.int .i64 r_1.Num.A, .int .i64 r_1.Num.B, .int .i64 r_1.Num.C, .int .i64 r_1.Num.D, .int .i64 r_1.Exp], 5⟩, ⟨some ⟨b3, 0, none⟩, 116, [.int .i64 0, .int .i64 0, .int .i64 0, .int .i64 0, .int .i64 0], 5⟩] [] := hS9
      refine ss0 rfl rfl (Ys_store (i := 2) (s := 5) (B := some ⟨b2, 0, none⟩) (T' := 116) (v := .agg #[.int .i64 r_2.Num.A, .int .i64 r_2.Num.B, .int .i64 r_2.Num.C, .int .i64 r_2.Num.D, .int .i64 r_2.Exp]) (vs := [.int .i64 r_2.Num.A, .int .i64 r_2.Num.B, .int .i64 r_2.Num.C, .int .i64 r_2.Num.D, .int .i64 r_2.Exp]) (k := 0) (cs' := [.int .i64 r_2.Num.A, .int .i64 r_2.Num.B, .int .i64 r_2.Num.C, .int .i64 r_2.Num.D, .int .i64 r_2.Exp]) hS9 k_sz_116_5 rfl rfl rfl rfl rfl rfl rfl (Nat.le_of_ble_eq_true rfl) rfl rfl) ?_
      rintro _ w_8 ⟨rfl, hS10⟩
      have hS10 : ST w0 [] _ [⟨some ⟨b, 0, none⟩, 109, [.int .i64 g.Kind, .int .i64 g.A, .int .i64 g.B], 3⟩, ⟨some ⟨b1, 0, none⟩, 116, [.int .i64 0, .int .i64 0, .int .i64 0, .int .i64 0, .int .i64 0], 5⟩, ⟨some ⟨b2, 0, none⟩, 116, [.int .i64 r_2.Num.A, .int .i64 r_2.Num.B, .int .i64 r_2.Num.C, .int .i64 r_2.Num.D, .int .i64 r_2.Exp], 5⟩, ⟨some ⟨b3, 0, none⟩, 116, [.int .i64 0, .int .i64 0, .int .i64 0, .int .i64 0, .int .i64 0], 5⟩] [] := hS10
      refine rw_nil ?_
      exact ⟨r_2.Num.A, r_2.Num.B, r_2.Num.C, r_2.Num.D, r_2.Exp, col, (some_inj hF2), (FF.cons rfl (FF.cons rfl (FF.cons rfl (FF.cons rfl (FF.cons rfl FF.nil))))), (hS10.sel [1, 2, 3] rfl rfl)⟩
    · skip
      have hF3 := cf' hz hb
      refine cw_seq ?_
      refine cw_region ?_
      refine sq 51 rfl rfl (Y_eq (k := .i64) (a := g.Kind) (b := 9) rfl rfl rfl) ?_
      refine sq 50 rfl rfl (Y_assign (v := .bool (g.Kind == 9)) rfl rfl) ?_
      refine rw_nil ?_
      refine cw_cond (b := (g.Kind == 9)) rfl (fun hb1 => ?_) (fun hb1 => ?_)
      · skip
        have hF4 := ct hF3 hb1
        refine cw_seq ?_
        refine cw_region ?_
        refine sq 52 rfl rfl (Y_move (v := .int .i64 n) rfl rfl) ?_
        refine sq 53 rfl rfl (Y_move (v := .int .i64 col) rfl rfl) ?_
        refine sq 54 rfl rfl (Y_fieldAddr (B := some ⟨b, 0, none⟩) (i := 0) (s := 0) k_fd_109_1_1_3 k_sz_3_1 rfl rfl) ?_
        refine sq 55 rfl rfl (Y_load1 (B := some ⟨b, 0, none⟩) (i := 1) (cs := [.int .i64 g.Kind, .int .i64 g.A, .int .i64 g.B]) (v := .int .i64 g.A) k_sc_3 rfl rfl (hS7.cf (i := 0) rfl) rfl) ?_
        obtain ⟨r_3, hc2, hF4⟩ := bind_inv hF4
        refine sc 56 rfl rfl (Yc_func (g := 151) (vs := [.int .i64 n, .int .i64 col, .int .i64 g.A]) k_call_151 rfl (mc rfl (mc rfl (mc rfl mn))) (c_spec_l6Bit n col g.A _  (hS7.inn0 [] rfl) hc2)) ?_
        rintro _ w_9 ⟨rfl, hd2⟩
        have hS11 := hS7.out00 hd2
        have hS11 : ST w0 [] _ [⟨some ⟨b, 0, none⟩, 109, [.int .i64 g.Kind, .int .i64 g.A, .int .i64 g.B], 3⟩, ⟨some ⟨b1, 0, none⟩, 116, [.int .i64 0, .int .i64 0, .int .i64 0, .int .i64 0, .int .i64 0], 5⟩, ⟨some ⟨b2, 0, none⟩, 116, [.int .i64 r_1.Num.A, .int .i64 r_1.Num.B, .int .i64 r_1.Num.C, .int .i64 r_1.Num.D, .int .i64 r_1.Exp], 5⟩, ⟨some ⟨b3, 0, none⟩, 116, [.int .i64 0, .int .i64 0, .int .i64 0, .int .i64 0, .int .i64 0], 5⟩] [] := hS11
        refine sq 57 rfl rfl (Y_eq (k := .i64) (a := r_3) (b := 1) rfl rfl rfl) ?_
        refine rw_nil ?_
        refine cw_cond (b := (r_3 == 1)) rfl (fun hb2 => ?_) (fun hb2 => ?_)
        · skip
          have hF5 := ct hF4 hb2
          refine cw_region ?_
          refine sq 58 rfl rfl (Y_move (v := .int .i64 col) rfl rfl) ?_
          refine sq 59 rfl rfl (Y_move (v := .int .i64 n) rfl rfl) ?_
          refine sq 60 rfl rfl (Y_sub (k := .i64) (a := n) (b := 1) rfl rfl rfl) ?_
          refine sq 61 rfl rfl (Y_fieldAddr (B := some ⟨b, 0, none⟩) (i := 0) (s := 0) k_fd_109_2_2_3 k_sz_3_1 rfl rfl) ?_
          refine sq 62 rfl rfl (Y_load1 (B := some ⟨b, 0, none⟩) (i := 2) (cs := [.int .i64 g.Kind, .int .i64 g.A, .int .i64 g.B]) (v := .int .i64 g.B) k_sc_3 rfl rfl (hS11.cf (i := 0) rfl) rfl) ?_
          refine sq 63 rfl rfl (Y_sub (k := .i64) (a := (IntKind.i64.wrap (n - 1))) (b := g.B) rfl rfl rfl) ?_
          refine sq 64 rfl rfl (Y_conv (k := .i64) (a := (IntKind.i64.wrap ((IntKind.i64.wrap (n - 1)) - g.B))) (T := 3) (T' := 66) k_us_3 k_int_66_u64 rfl rfl) ?_
          obtain ⟨hsh, hF5⟩ := chk_inv hF5
          refine sq 65 rfl rfl (Y_shl (k := .i64) (a := 1) (k' := .u64) (b := (IntKind.u64.wrap (IntKind.i64.wrap ((IntKind.i64.wrap (n - 1)) - g.B)))) rfl rfl rfl hsh) ?_
          refine sq 66 rfl rfl (Y_bxor (k := .i64) (a := col) (b := (shlK .i64 1 (IntKind.u64.wrap (IntKind.i64.wrap ((IntKind.i64.wrap (n - 1)) - g.B))))) rfl rfl rfl) ?_
          refine sq 11 rfl rfl (Y_assign (v := .int .i64 (bits .xor .i64 col (shlK .i64 1 (IntKind.u64.wrap (IntKind.i64.wrap ((IntKind.i64.wrap (n - 1)) - g.B)))))) rfl rfl) ?_
          refine rw_nil ?_
          exact ⟨r_1.Num.A, r_1.Num.B, r_1.Num.C, r_1.Num.D, r_1.Exp, (bits .xor .i64 col (shlK .i64 1 (IntKind.u64.wrap (IntKind.i64.wrap ((IntKind.i64.wrap (n - 1)) - g.B))))), (some_inj hF5), (FF.cons rfl (FF.cons rfl (FF.cons rfl (FF.cons rfl (FF.cons rfl FF.nil))))), (hS11.sel [1, 2, 3] rfl rfl)⟩
        · skip
          have hF6 := cf' hF4 hb2
          refine cw_skip ?_
          exact ⟨r_1.Num.A, r_1.Num.B, r_1.Num.C, r_1.Num.D, r_1.Exp, col, (some_inj hF6), (FF.cons rfl (FF.cons rfl (FF.cons rfl (FF.cons rfl (FF.cons rfl FF.nil))))), (hS11.sel [1, 2, 3] rfl rfl)⟩
      · skip
        have hF7 := cf' hF3 hb1
        refine cw_seq ?_
        refine cw_region ?_
        refine sq 68 rfl rfl (Y_eq (k := .i64) (a := g.Kind) (b := 10) rfl rfl rfl) ?_
        refine sq 67 rfl rfl (Y_assign (v := .bool (g.Kind == 10)) rfl rfl) ?_
        refine rw_nil ?_
        refine cw_cond (b := (g.Kind == 10)) rfl (fun hb3 => ?_) (fun hb3 => ?_)
        · skip
          have hF8 := ct hF7 hb3
          refine cw_seq ?_
          refine cw_region ?_
          refine sq 69 rfl rfl (Y_move (v := .int .i64 n) rfl rfl) ?_
          refine sq 70 rfl rfl (Y_move (v := .int .i64 col) rfl rfl) ?_
          refine sq 71 rfl rfl (Y_fieldAddr (B := some ⟨b, 0, none⟩) (i := 0) (s := 0) k_fd_109_1_1_3 k_sz_3_1 rfl rfl) ?_
          refine sq 72 rfl rfl (Y_load1 (B := some ⟨b, 0, none⟩) (i := 1) (cs := [.int .i64 g.Kind, .int .i64 g.A, .int .i64 g.B]) (v := .int .i64 g.A) k_sc_3 rfl rfl (hS7.cf (i := 0) rfl) rfl) ?_
          obtain ⟨r_4, hc3, hF8⟩ := bind_inv hF8
          refine sc 73 rfl rfl (Yc_func (g := 151) (vs := [.int .i64 n, .int .i64 col, .int .i64 g.A]) k_call_151 rfl (mc rfl (mc rfl (mc rfl mn))) (c_spec_l6Bit n col g.A _  (hS7.inn0 [] rfl) hc3)) ?_
          rintro _ w_10 ⟨rfl, hd3⟩
          have hS12 := hS7.out00 hd3
          have hS12 : ST w0 [] _ [⟨some ⟨b, 0, none⟩, 109, [.int .i64 g.Kind, .int .i64 g.A, .int .i64 g.B], 3⟩, ⟨some ⟨b1, 0, none⟩, 116, [.int .i64 0, .int .i64 0, .int .i64 0, .int .i64 0, .int .i64 0], 5⟩, ⟨some ⟨b2, 0, none⟩, 116, [.int .i64 r_1.Num.A, .int .i64 r_1.Num.B, .int .i64 r_1.Num.C, .int .i64 r_1.Num.D, .int .i64 r_1.Exp], 5⟩, ⟨some ⟨b3, 0, none⟩, 116, [.int .i64 0, .int .i64 0, .int .i64 0, .int .i64 0, .int .i64 0], 5⟩] [] := hS12
          refine sq 74 rfl rfl (Y_eq (k := .i64) (a := r_4) (b := 1) rfl rfl rfl) ?_
          refine sq 75 rfl rfl (Y_move (v := .bool (r_4 == 1)) rfl rfl) ?_
          refine sgq 76 (B := (r_4 == 1)) (v := .int .i64 n) rfl rfl (wt_t (gd_of (t := 75) (by kernel_rfl) rfl)) (fun hg => (Y_move (v := .int .i64 n) rfl rfl)) ?_
          refine sgq 77 (B := (r_4 == 1)) (v := .int .i64 col) rfl rfl (wt_t (gd_of (t := 75) (by kernel_rfl) rfl)) (fun hg1 => (Y_move (v := .int .i64 col) rfl rfl)) ?_
          refine sgq 78 (B := (r_4 == 1)) (v := pt (some ⟨b, 0, none⟩) 2) rfl rfl (wt_t (gd_of (t := 75) (by kernel_rfl) rfl)) (fun hg2 => (Y_fieldAddr (B := some ⟨b, 0, none⟩) (i := 0) (s := 0) k_fd_109_2_2_3 k_sz_3_1 rfl rfl)) ?_
          refine sgq 79 (B := (r_4 == 1)) (v := .int .i64 g.B) rfl rfl (wt_t (gd_of (t := 75) (by kernel_rfl) rfl)) (fun hg3 => (Y_load1 (B := some ⟨b, 0, none⟩) (i := 2) (cs := [.int .i64 g.Kind, .int .i64 g.A, .int .i64 g.B]) (v := .int .i64 g.B) k_sc_3 rfl (gv_of (B := (r_4 == 1)) (v := pt (some ⟨b, 0, none⟩) 2) hg3) (hS12.cf (i := 0) rfl) rfl)) ?_
          obtain ⟨r_5, hc4, hF8⟩ := bind_inv hF8
          refine sgc 80 (B := (r_4 == 1)) (v := .int .i64 r_5) (F := hS12.fn) rfl rfl (wt_t (gd_of (t := 75) (by kernel_rfl) rfl)) hS12 (fun hg4 => (Yc_func (g := 151) (vs := [.int .i64 n, .int .i64 col, .int .i64 g.B]) k_call_151 rfl (mc (gv_of (B := (r_4 == 1)) (v := .int .i64 n) hg4) (mc (gv_of (B := (r_4 == 1)) (v := .int .i64 col) hg4) (mc (gv_of (B := (r_4 == 1)) (v := .int .i64 g.B) hg4) mn))) (CV.mono (c_spec_l6Bit n col g.B _  (hS12.inn0 [] rfl) (gb_inv hc4 hg4)) (by rintro _ _ ⟨rfl, h⟩; exact ⟨rfl, hS12.out00 h⟩)))) ?_
          rintro w_11 hS13
          have hS13 : ST _ _ w_11 _ _ := hS13
          refine sgq 81 (B := (r_4 == 1)) (v := .bool (r_5 == 1)) rfl rfl (wt_t (gd_of (t := 75) (by kernel_rfl) rfl)) (fun hg5 => (Y_eq (k := .i64) (a := r_5) (b := 1) rfl (gv_of (B := (r_4 == 1)) (v := .int .i64 r_5) hg5) rfl)) ?_
          refine sq 82 rfl rfl (Y_and (b := (r_4 == 1)) (z := (r_5 == 1)) rfl rfl rfl rfl) ?_
          refine rw_nil ?_
          refine cw_cond (b := ((r_4 == 1) && (r_5 == 1))) rfl (fun hb4 => ?_) (fun hb4 => ?_)
          · skip
            have hF9 := ct hF8 hb4
            refine cw_region ?_
            obtain ⟨r_6, hc5, hF9⟩ := bind_inv hF9
            refine sc 83 rfl rfl (Yc_func (g := 77) (vs := [.int .i64 4]) k_call_77 rfl (mc rfl mn) (c_spec_l2Power 4 _  (hS13.inn0 [] rfl) hc5)) ?_
            rintro _ w_12 ⟨rfl, hd4⟩
            have hS14 := hS13.out00 hd4
            have hS14 : ST w0 [] _ [⟨some ⟨b, 0, none⟩, 109, [.int .i64 g.Kind, .int .i64 g.A, .int .i64 g.B], 3⟩, ⟨some ⟨b1, 0, none⟩, 116, [.int .i64 0, .int .i64 0, .int .i64 0, .int .i64 0, .int .i64 0], 5⟩, ⟨some ⟨b2, 0, none⟩, 116, [.int .i64 r_1.Num.A, .int .i64 r_1.Num.B, .int .i64 r_1.Num.C, .int .i64 r_1.Num.D, .int .i64 r_1.Exp], 5⟩, ⟨some ⟨b3, 0, none⟩, 116, [.int .i64 0, .int .i64 0, .int .i64 0, .int .i64 0, .int .i64 0], 5⟩] [] := hS14
            refine ss0 rfl rfl (Ys_store (i := 2) (s := 5) (B := some ⟨b2, 0, none⟩) (T' := 116) (v := .agg #[.int .i64 r_6.Num.A, .int .i64 r_6.Num.B, .int .i64 r_6.Num.C, .int .i64 r_6.Num.D, .int .i64 r_6.Exp]) (vs := [.int .i64 r_6.Num.A, .int .i64 r_6.Num.B, .int .i64 r_6.Num.C, .int .i64 r_6.Num.D, .int .i64 r_6.Exp]) (k := 0) (cs' := [.int .i64 r_6.Num.A, .int .i64 r_6.Num.B, .int .i64 r_6.Num.C, .int .i64 r_6.Num.D, .int .i64 r_6.Exp]) hS14 k_sz_116_5 rfl rfl rfl rfl rfl rfl rfl (Nat.le_of_ble_eq_true rfl) rfl rfl) ?_
            rintro _ w_13 ⟨rfl, hS15⟩
            have hS15 : ST w0 [] _ [⟨some ⟨b, 0, none⟩, 109, [.int .i64 g.Kind, .int .i64 g.A, .int .i64 g.B], 3⟩, ⟨some ⟨b1, 0, none⟩, 116, [.int .i64 0, .int .i64 0, .int .i64 0, .int .i64 0, .int .i64 0], 5⟩, ⟨some ⟨b2, 0, none⟩, 116, [.int .i64 r_6.Num.A, .int .i64 r_6.Num.B, .int .i64 r_6.Num.C, .int .i64 r_6.Num.D, .int .i64 r_6.Exp], 5⟩, ⟨some ⟨b3, 0, none⟩, 116, [.int .i64 0, .int .i64 0, .int .i64 0, .int .i64 0, .int .i64 0], 5⟩] [] := hS15
            refine rw_nil ?_
            exact ⟨r_6.Num.A, r_6.Num.B, r_6.Num.C, r_6.Num.D, r_6.Exp, col, (some_inj hF9), (FF.cons rfl (FF.cons rfl (FF.cons rfl (FF.cons rfl (FF.cons rfl FF.nil))))), (hS15.sel [1, 2, 3] rfl rfl)⟩
          · skip
            have hF10 := cf' hF8 hb4
            refine cw_skip ?_
            exact ⟨r_1.Num.A, r_1.Num.B, r_1.Num.C, r_1.Num.D, r_1.Exp, col, (some_inj hF10), (FF.cons rfl (FF.cons rfl (FF.cons rfl (FF.cons rfl (FF.cons rfl FF.nil))))), (hS13.sel [1, 2, 3] rfl rfl)⟩
        · skip
          have hF11 := cf' hF7 hb3
          refine cw_seq ?_
          refine cw_region ?_
          refine sq 85 rfl rfl (Y_eq (k := .i64) (a := g.Kind) (b := 11) rfl rfl rfl) ?_
          refine sq 84 rfl rfl (Y_assign (v := .bool (g.Kind == 11)) rfl rfl) ?_
          refine rw_nil ?_
          refine cw_cond (b := (g.Kind == 11)) rfl (fun hb5 => ?_) (fun hb5 => ?_)
          · skip
            have hF12 := ct hF11 hb5
            refine cw_seq ?_
            obtain ⟨r_7, hc6, hF12⟩ := bind_inv hF12
            obtain ⟨r_8, hc7, hF12⟩ := bind_inv hF12
            refine ra_start (ST.sel hS7 [0, 1, 2, 3] rfl rfl).fn (by kernel_rfl) ?_
            have hS18 := hS7.drew
            refine ra_q 0 86 (v := .int .i64 n) rfl rfl rfl (by kernel_rfl) (by kernel_rfl) (by kernel_rfl) (ST.sel hS18 [0, 1, 2, 3] rfl rfl) (fun w' hw' => (Y_move (v := .int .i64 n) rfl rfl)) ?_
            refine ra_q 1 87 (v := .int .i64 col) rfl rfl rfl (by kernel_rfl) (by kernel_rfl) (by kernel_rfl) (ST.sel hS18 [0, 1, 2, 3] rfl rfl) (fun w' hw' => (Y_move (v := .int .i64 col) rfl rfl)) ?_
            refine ra_q 2 88 (v := pt (some ⟨b, 0, none⟩) 1) rfl rfl rfl (by kernel_rfl) (by kernel_rfl) (by kernel_rfl) (ST.sel hS18 [0, 1, 2, 3] rfl rfl) (fun w' hw' => (Y_fieldAddr (B := some ⟨b, 0, none⟩) (i := 0) (s := 0) k_fd_109_1_1_3 k_sz_3_1 rfl rfl)) ?_
            refine ra_q 3 89 (v := .int .i64 g.A) rfl rfl rfl (by kernel_rfl) (by kernel_rfl) (by kernel_rfl) (ST.sel hS18 [0, 1, 2, 3] rfl rfl) (fun w' hw' => (Y_load1 (B := some ⟨b, 0, none⟩) (i := 1) (cs := [.int .i64 g.Kind, .int .i64 g.A, .int .i64 g.B]) (v := .int .i64 g.A) k_sc_3 rfl rfl (ST.cf hw' (i := 0) rfl) rfl)) ?_
            refine ra_q 5 91 (v := .int .i64 n) rfl rfl rfl (by kernel_rfl) (by kernel_rfl) (by kernel_rfl) (ST.sel hS18 [0, 1, 2, 3] rfl rfl) (fun w' hw' => (Y_move (v := .int .i64 n) rfl rfl)) ?_
            refine ra_q 6 92 (v := .int .i64 col) rfl rfl rfl (by kernel_rfl) (by kernel_rfl) (by kernel_rfl) (ST.sel hS18 [0, 1, 2, 3] rfl rfl) (fun w' hw' => (Y_move (v := .int .i64 col) rfl rfl)) ?_
            refine ra_q 7 93 (v := pt (some ⟨b, 0, none⟩) 2) rfl rfl rfl (by kernel_rfl) (by kernel_rfl) (by kernel_rfl) (ST.sel hS18 [0, 1, 2, 3] rfl rfl) (fun w' hw' => (Y_fieldAddr (B := some ⟨b, 0, none⟩) (i := 0) (s := 0) k_fd_109_2_2_3 k_sz_3_1 rfl rfl)) ?_
            refine ra_q 8 94 (v := .int .i64 g.B) rfl rfl rfl (by kernel_rfl) (by kernel_rfl) (by kernel_rfl) (ST.sel hS18 [0, 1, 2, 3] rfl rfl) (fun w' hw' => (Y_load1 (B := some ⟨b, 0, none⟩) (i := 2) (cs := [.int .i64 g.Kind, .int .i64 g.A, .int .i64 g.B]) (v := .int .i64 g.B) k_sc_3 rfl rfl (ST.cf hw' (i := 0) rfl) rfl)) ?_
            refine ra_all (rs := [4]) (by kernel_rfl) rfl ?_
            refine ra_c 90 (i := 4) rfl rfl rfl (Yc_func (g := 151) (vs := [.int .i64 n, .int .i64 col, .int .i64 g.A]) k_call_151 rfl (mc rfl (mc rfl (mc rfl mn))) (c_spec_l6Bit n col g.A _  (hS18.inn0 [] rfl) hc6)) ?_ ?_
            · rintro _ w_14 ⟨rfl, hd5⟩
              have hS19 := hS18.out00 hd5
              have hS19 : ST w0 [] _ [⟨some ⟨b, 0, none⟩, 109, [.int .i64 g.Kind, .int .i64 g.A, .int .i64 g.B], 3⟩, ⟨some ⟨b1, 0, none⟩, 116, [.int .i64 0, .int .i64 0, .int .i64 0, .int .i64 0, .int .i64 0], 5⟩, ⟨some ⟨b2, 0, none⟩, 116, [.int .i64 r_1.Num.A, .int .i64 r_1.Num.B, .int .i64 r_1.Num.C, .int .i64 r_1.Num.D, .int .i64 r_1.Exp], 5⟩, ⟨some ⟨b3, 0, none⟩, 116, [.int .i64 0, .int .i64 0, .int .i64 0, .int .i64 0, .int .i64 0], 5⟩] [] := hS19
              refine ⟨(ST.sel hS19 [0, 1, 2, 3] rfl rfl), ?_⟩
              refine ra_all (rs := [9]) (by kernel_rfl) rfl ?_
              refine ra_c 95 (i := 9) rfl rfl rfl (Yc_func (g := 151) (vs := [.int .i64 n, .int .i64 col, .int .i64 g.B]) k_call_151 rfl (mc rfl (mc rfl (mc rfl mn))) (c_spec_l6Bit n col g.B _  (hS19.inn0 [] rfl) hc7)) ?_ ?_
              · rintro _ w_15 ⟨rfl, hd6⟩
                have hS20 := hS19.out00 hd6
                have hS20 : ST w0 [] _ [⟨some ⟨b, 0, none⟩, 109, [.int .i64 g.Kind, .int .i64 g.A, .int .i64 g.B], 3⟩, ⟨some ⟨b1, 0, none⟩, 116, [.int .i64 0, .int .i64 0, .int .i64 0, .int .i64 0, .int .i64 0], 5⟩, ⟨some ⟨b2, 0, none⟩, 116, [.int .i64 r_1.Num.A, .int .i64 r_1.Num.B, .int .i64 r_1.Num.C, .int .i64 r_1.Num.D, .int .i64 r_1.Exp], 5⟩, ⟨some ⟨b3, 0, none⟩, 116, [.int .i64 0, .int .i64 0, .int .i64 0, .int .i64 0, .int .i64 0], 5⟩] [] := hS20
                refine ⟨(ST.sel hS20 [0, 1, 2, 3] rfl rfl), ?_⟩
                refine ra_q 10 96 (v := .bool (r_7 != r_8)) rfl rfl rfl (by kernel_rfl) (by kernel_rfl) (by kernel_rfl) (ST.sel hS20 [0, 1, 2, 3] rfl rfl) (fun w' hw' => (Y_ne (k := .i64) (a := r_7) (b := r_8) rfl rfl rfl)) ?_
                refine ra_done (by kernel_rfl) ?_
                refine cw_cond (b := (r_7 != r_8)) rfl (fun hb6 => ?_) (fun hb6 => ?_)
                · skip
                  have hF13 := ct hF12 hb6
                  refine cw_region ?_
                  refine sq 97 rfl rfl (Y_move (v := .int .i64 col) rfl rfl) ?_
                  refine sq 98 rfl rfl (Y_move (v := .int .i64 n) rfl rfl) ?_
                  refine sq 99 rfl rfl (Y_sub (k := .i64) (a := n) (b := 1) rfl rfl rfl) ?_
                  refine sq 100 rfl rfl (Y_fieldAddr (B := some ⟨b, 0, none⟩) (i := 0) (s := 0) k_fd_109_1_1_3 k_sz_3_1 rfl rfl) ?_
                  refine sq 101 rfl rfl (Y_load1 (B := some ⟨b, 0, none⟩) (i := 1) (cs := [.int .i64 g.Kind, .int .i64 g.A, .int .i64 g.B]) (v := .int .i64 g.A) k_sc_3 rfl rfl (hS20.cf (i := 0) rfl) rfl) ?_
                  refine sq 102 rfl rfl (Y_sub (k := .i64) (a := (IntKind.i64.wrap (n - 1))) (b := g.A) rfl rfl rfl) ?_
                  refine sq 103 rfl rfl (Y_conv (k := .i64) (a := (IntKind.i64.wrap ((IntKind.i64.wrap (n - 1)) - g.A))) (T := 3) (T' := 66) k_us_3 k_int_66_u64 rfl rfl) ?_
                  obtain ⟨hsh1, hF13⟩ := chk_inv hF13
                  refine sq 104 rfl rfl (Y_shl (k := .i64) (a := 1) (k' := .u64) (b := (IntKind.u64.wrap (IntKind.i64.wrap ((IntKind.i64.wrap (n - 1)) - g.A)))) rfl rfl rfl hsh1) ?_
                  refine sq 105 rfl rfl (Y_bxor (k := .i64) (a := col) (b := (shlK .i64 1 (IntKind.u64.wrap (IntKind.i64.wrap ((IntKind.i64.wrap (n - 1)) - g.A))))) rfl rfl rfl) ?_
                  refine sq 106 rfl rfl (Y_move (v := .int .i64 n) rfl rfl) ?_
                  refine sq 107 rfl rfl (Y_sub (k := .i64) (a := n) (b := 1) rfl rfl rfl) ?_
                  refine sq 108 rfl rfl (Y_fieldAddr (B := some ⟨b, 0, none⟩) (i := 0) (s := 0) k_fd_109_2_2_3 k_sz_3_1 rfl rfl) ?_
                  refine sq 109 rfl rfl (Y_load1 (B := some ⟨b, 0, none⟩) (i := 2) (cs := [.int .i64 g.Kind, .int .i64 g.A, .int .i64 g.B]) (v := .int .i64 g.B) k_sc_3 rfl rfl (hS20.cf (i := 0) rfl) rfl) ?_
                  refine sq 110 rfl rfl (Y_sub (k := .i64) (a := (IntKind.i64.wrap (n - 1))) (b := g.B) rfl rfl rfl) ?_
                  refine sq 111 rfl rfl (Y_conv (k := .i64) (a := (IntKind.i64.wrap ((IntKind.i64.wrap (n - 1)) - g.B))) (T := 3) (T' := 66) k_us_3 k_int_66_u64 rfl rfl) ?_
                  obtain ⟨hsh2, hF13⟩ := chk_inv hF13
                  refine sq 112 rfl rfl (Y_shl (k := .i64) (a := 1) (k' := .u64) (b := (IntKind.u64.wrap (IntKind.i64.wrap ((IntKind.i64.wrap (n - 1)) - g.B)))) rfl rfl rfl hsh2) ?_
                  refine sq 113 rfl rfl (Y_bxor (k := .i64) (a := (bits .xor .i64 col (shlK .i64 1 (IntKind.u64.wrap (IntKind.i64.wrap ((IntKind.i64.wrap (n - 1)) - g.A)))))) (b := (shlK .i64 1 (IntKind.u64.wrap (IntKind.i64.wrap ((IntKind.i64.wrap (n - 1)) - g.B))))) rfl rfl rfl) ?_
                  refine sq 11 rfl rfl (Y_assign (v := .int .i64 (bits .xor .i64 (bits .xor .i64 col (shlK .i64 1 (IntKind.u64.wrap (IntKind.i64.wrap ((IntKind.i64.wrap (n - 1)) - g.A))))) (shlK .i64 1 (IntKind.u64.wrap (IntKind.i64.wrap ((IntKind.i64.wrap (n - 1)) - g.B)))))) rfl rfl) ?_
                  refine rw_nil ?_
                  exact ⟨r_1.Num.A, r_1.Num.B, r_1.Num.C, r_1.Num.D, r_1.Exp, (bits .xor .i64 (bits .xor .i64 col (shlK .i64 1 (IntKind.u64.wrap (IntKind.i64.wrap ((IntKind.i64.wrap (n - 1)) - g.A))))) (shlK .i64 1 (IntKind.u64.wrap (IntKind.i64.wrap ((IntKind.i64.wrap (n - 1)) - g.B))))), (some_inj hF13), (FF.cons rfl (FF.cons rfl (FF.cons rfl (FF.cons rfl (FF.cons rfl FF.nil))))), (hS20.sel [1, 2, 3] rfl rfl)⟩
                · skip
                  have hF14 := cf' hF12 hb6
                  refine cw_skip ?_
                  exact ⟨r_1.Num.A, r_1.Num.B, r_1.Num.C, r_1.Num.D, r_1.Exp, col, (some_inj hF14), (FF.cons rfl (FF.cons rfl (FF.cons rfl (FF.cons rfl (FF.cons rfl FF.nil))))), (hS20.sel [1, 2, 3] rfl rfl)⟩
              exact allR_nil
            exact allR_nil
          · skip
            have hF15 := cf' hF11 hb5
            refine cw_seq ?_
            refine cw_seq ?_
            refine cw_region ?_
            refine sq 17 rfl rfl (Y_move (v := .int .i64 row) rfl rfl) ?_
            refine sq 18 rfl rfl (Y_move (v := .int .i64 col) rfl rfl) ?_
            refine sq 19 rfl rfl (Y_bxor (k := .i64) (a := row) (b := col) rfl rfl rfl) ?_
            refine sq 20 rfl rfl (Y_move (v := .int .i64 n) rfl rfl) ?_
            refine sq 21 rfl rfl (Y_sub (k := .i64) (a := n) (b := 1) rfl rfl rfl) ?_
            refine sq 22 rfl rfl (Y_fieldAddr (B := some ⟨b, 0, none⟩) (i := 0) (s := 0) k_fd_109_1_1_3 k_sz_3_1 rfl rfl) ?_
            refine sq 23 rfl rfl (Y_load1 (B := some ⟨b, 0, none⟩) (i := 1) (cs := [.int .i64 g.Kind, .int .i64 g.A, .int .i64 g.B]) (v := .int .i64 g.A) k_sc_3 rfl rfl (hS7.cf (i := 0) rfl) rfl) ?_
            refine sq 24 rfl rfl (Y_sub (k := .i64) (a := (IntKind.i64.wrap (n - 1))) (b := g.A) rfl rfl rfl) ?_
            refine sq 25 rfl rfl (Y_conv (k := .i64) (a := (IntKind.i64.wrap ((IntKind.i64.wrap (n - 1)) - g.A))) (T := 3) (T' := 66) k_us_3 k_int_66_u64 rfl rfl) ?_
            obtain ⟨hsh3, hF15⟩ := chk_inv hF15
            refine sq 26 rfl rfl (Y_shl (k := .i64) (a := 1) (k' := .u64) (b := (IntKind.u64.wrap (IntKind.i64.wrap ((IntKind.i64.wrap (n - 1)) - g.A)))) rfl rfl rfl hsh3) ?_
            refine sq 27 rfl rfl (Y_bandNot (k := .i64) (a := (bits .xor .i64 row col)) (b := (shlK .i64 1 (IntKind.u64.wrap (IntKind.i64.wrap ((IntKind.i64.wrap (n - 1)) - g.A))))) rfl rfl rfl) ?_
            refine sq 28 rfl rfl (Y_ne (k := .i64) (a := (bits .andNot .i64 (bits .xor .i64 row col) (shlK .i64 1 (IntKind.u64.wrap (IntKind.i64.wrap ((IntKind.i64.wrap (n - 1)) - g.A)))))) (b := 0) rfl rfl rfl) ?_
            refine rw_nil ?_
            refine cw_cond (b := ((bits .andNot .i64 (bits .xor .i64 row col) (shlK .i64 1 (IntKind.u64.wrap (IntKind.i64.wrap ((IntKind.i64.wrap (n - 1)) - g.A))))) != 0)) rfl (fun hb7 => ?_) (fun hb7 => ?_)
            · skip
              have hF16 := ct hF15 hb7
              refine cw_seq ?_
              refine cw_region ?_
              refine sq 29 rfl rfl (Y_loadA (B := some ⟨b3, 0, none⟩) (i := 0) (cs := [.int .i64 0, .int .i64 0, .int .i64 0, .int .i64 0, .int .i64 0]) (vs := [.int .i64 0, .int .i64 0, .int .i64 0, .int .i64 0, .int .i64 0]) k_ag_116 k_sz_116_5 rfl rfl (hS7.cf (i := 3) rfl) rfl rfl) ?_
              refine ss0 rfl rfl (Ys_store (i := 1) (s := 5) (B := some ⟨b1, 0, none⟩) (T' := 116) (v := .agg #[.int .i64 0, .int .i64 0, .int .i64 0, .int .i64 0, .int .i64 0]) (vs := [.int .i64 0, .int .i64 0, .int .i64 0, .int .i64 0, .int .i64 0]) (k := 0) (cs' := [.int .i64 0, .int .i64 0, .int .i64 0, .int .i64 0, .int .i64 0]) hS7 k_sz_116_5 rfl rfl rfl rfl rfl rfl rfl (Nat.le_of_ble_eq_true rfl) rfl rfl) ?_
              rintro _ w_16 ⟨rfl, hS21⟩
              have hS21 : ST w0 [] _ [⟨some ⟨b, 0, none⟩, 109, [.int .i64 g.Kind, .int .i64 g.A, .int .i64 g.B], 3⟩, ⟨some ⟨b1, 0, none⟩, 116, [.int .i64 0, .int .i64 0, .int .i64 0, .int .i64 0, .int .i64 0], 5⟩, ⟨some ⟨b2, 0, none⟩, 116, [.int .i64 r_1.Num.A, .int .i64 r_1.Num.B, .int .i64 r_1.Num.C, .int .i64 r_1.Num.D, .int .i64 r_1.Exp], 5⟩, ⟨some ⟨b3, 0, none⟩, 116, [.int .i64 0, .int .i64 0, .int .i64 0, .int .i64 0, .int .i64 0], 5⟩] [] := hS21
              refine rw_nil ?_
              refine cw_ret ?_
              obtain rfl := some_inj hF16
              obtain rfl := some_inj hF1
              exact ret1 Try.results118 (v1 := .agg #[.int .i64 0, .int .i64 0, .int .i64 0, .int .i64 0, .int .i64 0]) (resAt_cellA (B := some ⟨b1, 0, none⟩) (i := 0) (cs := [.int .i64 0, .int .i64 0, .int .i64 0, .int .i64 0, .int .i64 0]) (vs := [.int .i64 0, .int .i64 0, .int .i64 0, .int .i64 0, .int .i64 0]) rfl k_ag_116 k_sz_116_5 (hS21.cf (i := 1) rfl) rfl rfl) ⟨rfl, (ST.subR (R' := []) (hS21.sel [] rfl rfl) (fun _ h => by cases h))⟩
            · skip
              have hF17 := cf' hF15 hb7
              refine cw_skip ?_
              refine cw_seq ?_
              obtain ⟨r_9, hc8, hF17⟩ := bind_inv hF17
              obtain ⟨r_10, hc9, hF17⟩ := bind_inv hF17
              obtain ⟨r_11, hc10, hF17⟩ := bind_inv hF17
              obtain ⟨x, hx, hF17⟩ := bind_inv hF17
              refine ra_start (ST.sel hS7 [0, 2, 3] rfl rfl).fn (by kernel_rfl) ?_
              have hS25 := hS7.drew
              refine ra_q 0 30 (v := pt (some ⟨b, 0, none⟩) 0) rfl rfl rfl (by kernel_rfl) (by kernel_rfl) (by kernel_rfl) (ST.sel hS25 [0, 2, 3] rfl rfl) (fun w' hw' => (Y_fieldAddr (B := some ⟨b, 0, none⟩) (i := 0) (s := 0) k_fd_109_0_0_3 k_sz_3_1 rfl rfl)) ?_
              refine ra_q 1 31 (v := .int .i64 g.Kind) rfl rfl rfl (by kernel_rfl) (by kernel_rfl) (by kernel_rfl) (ST.sel hS25 [0, 2, 3] rfl rfl) (fun w' hw' => (Y_load1 (B := some ⟨b, 0, none⟩) (i := 0) (cs := [.int .i64 g.Kind, .int .i64 g.A, .int .i64 g.B]) (v := .int .i64 g.Kind) k_sc_3 rfl rfl (ST.cf hw' (i := 0) rfl) rfl)) ?_
              refine ra_q 3 33 (v := .int .i64 n) rfl rfl rfl (by kernel_rfl) (by kernel_rfl) (by kernel_rfl) (ST.sel hS25 [0, 2, 3] rfl rfl) (fun w' hw' => (Y_move (v := .int .i64 n) rfl rfl)) ?_
              refine ra_q 4 34 (v := .int .i64 row) rfl rfl rfl (by kernel_rfl) (by kernel_rfl) (by kernel_rfl) (ST.sel hS25 [0, 2, 3] rfl rfl) (fun w' hw' => (Y_move (v := .int .i64 row) rfl rfl)) ?_
              refine ra_q 5 35 (v := pt (some ⟨b, 0, none⟩) 1) rfl rfl rfl (by kernel_rfl) (by kernel_rfl) (by kernel_rfl) (ST.sel hS25 [0, 2, 3] rfl rfl) (fun w' hw' => (Y_fieldAddr (B := some ⟨b, 0, none⟩) (i := 0) (s := 0) k_fd_109_1_1_3 k_sz_3_1 rfl rfl)) ?_
              refine ra_q 6 36 (v := .int .i64 g.A) rfl rfl rfl (by kernel_rfl) (by kernel_rfl) (by kernel_rfl) (ST.sel hS25 [0, 2, 3] rfl rfl) (fun w' hw' => (Y_load1 (B := some ⟨b, 0, none⟩) (i := 1) (cs := [.int .i64 g.Kind, .int .i64 g.A, .int .i64 g.B]) (v := .int .i64 g.A) k_sc_3 rfl rfl (ST.cf hw' (i := 0) rfl) rfl)) ?_
              refine ra_q 9 39 (v := .int .i64 n) rfl rfl rfl (by kernel_rfl) (by kernel_rfl) (by kernel_rfl) (ST.sel hS25 [0, 2, 3] rfl rfl) (fun w' hw' => (Y_move (v := .int .i64 n) rfl rfl)) ?_
              refine ra_q 10 40 (v := .int .i64 col) rfl rfl rfl (by kernel_rfl) (by kernel_rfl) (by kernel_rfl) (ST.sel hS25 [0, 2, 3] rfl rfl) (fun w' hw' => (Y_move (v := .int .i64 col) rfl rfl)) ?_
              refine ra_q 11 41 (v := pt (some ⟨b, 0, none⟩) 1) rfl rfl rfl (by kernel_rfl) (by kernel_rfl) (by kernel_rfl) (ST.sel hS25 [0, 2, 3] rfl rfl) (fun w' hw' => (Y_fieldAddr (B := some ⟨b, 0, none⟩) (i := 0) (s := 0) k_fd_109_1_1_3 k_sz_3_1 rfl rfl)) ?_
              refine ra_q 12 42 (v := .int .i64 g.A) rfl rfl rfl (by kernel_rfl) (by kernel_rfl) (by kernel_rfl) (ST.sel hS25 [0, 2, 3] rfl rfl) (fun w' hw' => (Y_load1 (B := some ⟨b, 0, none⟩) (i := 1) (cs := [.int .i64 g.Kind, .int .i64 g.A, .int .i64 g.B]) (v := .int .i64 g.A) k_sc_3 rfl rfl (ST.cf hw' (i := 0) rfl) rfl)) ?_
              refine ra_all (rs := [2]) (by kernel_rfl) rfl ?_
              refine ra_c 32 (i := 2) rfl rfl rfl (Yc_func (g := 152) (vs := [.int .i64 g.Kind]) k_call_152 rfl (mc rfl mn) (c_spec_l6One g.Kind _  (hS25.inn0 [] rfl) hc8)) ?_ ?_
              · rintro _ w_17 ⟨B1, c, rfl, hd7⟩
                have hS26 := hS25.out0 hd7
                have hS26 : ST w0 [] _ [⟨some ⟨b, 0, none⟩, 109, [.int .i64 g.Kind, .int .i64 g.A, .int .i64 g.B], 3⟩, ⟨some ⟨b1, 0, none⟩, 116, [.int .i64 0, .int .i64 0, .int .i64 0, .int .i64 0, .int .i64 0], 5⟩, ⟨some ⟨b2, 0, none⟩, 116, [.int .i64 r_1.Num.A, .int .i64 r_1.Num.B, .int .i64 r_1.Num.C, .int .i64 r_1.Num.D, .int .i64 r_1.Exp], 5⟩, ⟨some ⟨b3, 0, none⟩, 116, [.int .i64 0, .int .i64 0, .int .i64 0, .int .i64 0, .int .i64 0], 5⟩, ⟨B1, 116, (r_9.flatMap enc_Dyadic), c * 5⟩] [] := hS26
                refine ⟨(ST.sel hS26 [0, 2, 3] rfl rfl), ?_⟩
                refine ra_all (rs := [7]) (by kernel_rfl) rfl ?_
                refine ra_c 37 (i := 7) rfl rfl rfl (Yc_func (g := 151) (vs := [.int .i64 n, .int .i64 row, .int .i64 g.A]) k_call_151 rfl (mc rfl (mc rfl (mc rfl mn))) (c_spec_l6Bit n row g.A _  (hS26.inn0 [] rfl) hc9)) ?_ ?_
                · rintro _ w_18 ⟨rfl, hd8⟩
                  have hS27 := hS26.out00 hd8
                  have hS27 : ST w0 [] _ [⟨some ⟨b, 0, none⟩, 109, [.int .i64 g.Kind, .int .i64 g.A, .int .i64 g.B], 3⟩, ⟨some ⟨b1, 0, none⟩, 116, [.int .i64 0, .int .i64 0, .int .i64 0, .int .i64 0, .int .i64 0], 5⟩, ⟨some ⟨b2, 0, none⟩, 116, [.int .i64 r_1.Num.A, .int .i64 r_1.Num.B, .int .i64 r_1.Num.C, .int .i64 r_1.Num.D, .int .i64 r_1.Exp], 5⟩, ⟨some ⟨b3, 0, none⟩, 116, [.int .i64 0, .int .i64 0, .int .i64 0, .int .i64 0, .int .i64 0], 5⟩, ⟨B1, 116, (r_9.flatMap enc_Dyadic), c * 5⟩] [] := hS27
                  refine ⟨(ST.sel hS27 [0, 2, 3] rfl rfl), ?_⟩
                  refine ra_q 8 38 (v := .int .i64 (IntKind.i64.wrap (2 * r_10))) rfl rfl rfl (by kernel_rfl) (by kernel_rfl) (by kernel_rfl) (ST.sel hS27 [0, 2, 3] rfl rfl) (fun w' hw' => (Y_mul (k := .i64) (a := 2) (b := r_10) rfl rfl rfl)) ?_
                  refine ra_all (rs := [13]) (by kernel_rfl) rfl ?_
                  refine ra_c 43 (i := 13) rfl rfl rfl (Yc_func (g := 151) (vs := [.int .i64 n, .int .i64 col, .int .i64 g.A]) k_call_151 rfl (mc rfl (mc rfl (mc rfl mn))) (c_spec_l6Bit n col g.A _  (hS27.inn0 [] rfl) hc10)) ?_ ?_
                  · rintro _ w_19 ⟨rfl, hd9⟩
                    have hS28 := hS27.out00 hd9
                    have hS28 : ST w0 [] _ [⟨some ⟨b, 0, none⟩, 109, [.int .i64 g.Kind, .int .i64 g.A, .int .i64 g.B], 3⟩, ⟨some ⟨b1, 0, none⟩, 116, [.int .i64 0, .int .i64 0, .int .i64 0, .int .i64 0, .int .i64 0], 5⟩, ⟨some ⟨b2, 0, none⟩, 116, [.int .i64 r_1.Num.A, .int .i64 r_1.Num.B, .int .i64 r_1.Num.C, .int .i64 r_1.Num.D, .int .i64 r_1.Exp], 5⟩, ⟨some ⟨b3, 0, none⟩, 116, [.int .i64 0, .int .i64 0, .int .i64 0, .int .i64 0, .int .i64 0], 5⟩, ⟨B1, 116, (r_9.flatMap enc_Dyadic), c * 5⟩] [] := hS28
                    refine ⟨(ST.sel hS28 [0, 2, 3] rfl rfl), ?_⟩
                    refine ra_q 14 44 (v := .int .i64 (IntKind.i64.wrap ((IntKind.i64.wrap (2 * r_10)) + r_11))) rfl rfl rfl (by kernel_rfl) (by kernel_rfl) (by kernel_rfl) (ST.sel hS28 [0, 2, 3] rfl rfl) (fun w' hw' => (Y_add (k := .i64) (a := (IntKind.i64.wrap (2 * r_10))) (b := r_11) rfl rfl rfl)) ?_
                    refine ra_all (rs := [15]) (by kernel_rfl) rfl ?_
                    refine ra_y 45 (i := 15) (v := pt B1 ((IntKind.i64.wrap ((IntKind.i64.wrap (2 * r_10)) + r_11)).toNat * 5)) rfl rfl rfl (Y_index (B := B1) (m := r_9.length) (c := c) (k := .i64) (i := (IntKind.i64.wrap ((IntKind.i64.wrap (2 * r_10)) + r_11))) k_sl_26_116 k_sz_116_5 rfl rfl rfl (gi_isSome enc_Dyadic_len rfl (hS28.cf (i := 4) rfl) hx) (getI_nn hx) (getI_ltI hx rfl)) (ST.sel hS28 [0, 2, 3] rfl rfl) ?_ ?_
                    · skip
                      refine ra_all (rs := [16]) (by kernel_rfl) rfl ?_
                      refine ra_y 46 (i := 16) (v := .agg #[.int .i64 x.Num.A, .int .i64 x.Num.B, .int .i64 x.Num.C, .int .i64 x.Num.D, .int .i64 x.Exp]) rfl rfl rfl (Y_loadA (B := B1) (i := (IntKind.i64.wrap ((IntKind.i64.wrap (2 * r_10)) + r_11)).toNat * 5) (cs := (r_9.flatMap enc_Dyadic)) (vs := [.int .i64 x.Num.A, .int .i64 x.Num.B, .int .i64 x.Num.C, .int .i64 x.Num.D, .int .i64 x.Exp]) k_ag_116 k_sz_116_5 rfl rfl (hS28.cf (i := 4) rfl) (enc_Dyadic_len x) (gi_seg enc_Dyadic_len hx)) (ST.sel hS28 [0, 2, 3] rfl rfl) ?_ ?_
                      · skip
                        refine ra_all (rs := [17]) (by kernel_rfl) rfl ?_
                        refine ra_s0 (i := 17) rfl rfl rfl (Ys_store (i := 1) (s := 5) (B := some ⟨b1, 0, none⟩) (T' := 116) (v := .agg #[.int .i64 x.Num.A, .int .i64 x.Num.B, .int .i64 x.Num.C, .int .i64 x.Num.D, .int .i64 x.Exp]) (vs := [.int .i64 x.Num.A, .int .i64 x.Num.B, .int .i64 x.Num.C, .int .i64 x.Num.D, .int .i64 x.Exp]) (k := 0) (cs' := [.int .i64 x.Num.A, .int .i64 x.Num.B, .int .i64 x.Num.C, .int .i64 x.Num.D, .int .i64 x.Exp]) hS28 k_sz_116_5 rfl rfl rfl rfl rfl rfl rfl (Nat.le_of_ble_eq_true rfl) rfl rfl) ?_ ?_
                        · rintro _ w_20 ⟨rfl, hS29⟩
                          have hS29 : ST w0 [] _ [⟨some ⟨b, 0, none⟩, 109, [.int .i64 g.Kind, .int .i64 g.A, .int .i64 g.B], 3⟩, ⟨some ⟨b1, 0, none⟩, 116, [.int .i64 x.Num.A, .int .i64 x.Num.B, .int .i64 x.Num.C, .int .i64 x.Num.D, .int .i64 x.Exp], 5⟩, ⟨some ⟨b2, 0, none⟩, 116, [.int .i64 r_1.Num.A, .int .i64 r_1.Num.B, .int .i64 r_1.Num.C, .int .i64 r_1.Num.D, .int .i64 r_1.Exp], 5⟩, ⟨some ⟨b3, 0, none⟩, 116, [.int .i64 0, .int .i64 0, .int .i64 0, .int .i64 0, .int .i64 0], 5⟩, ⟨B1, 116, (r_9.flatMap enc_Dyadic), c * 5⟩] [] := hS29
                          refine ⟨(ST.sel hS29 [0, 2, 3] rfl rfl), ?_⟩
                          refine ra_done (by kernel_rfl) ?_
                          refine cw_ret ?_
                          obtain rfl := some_inj hF17
                          obtain rfl := some_inj hF1
                          exact ret1 Try.results118 (v1 := .agg #[.int .i64 x.Num.A, .int .i64 x.Num.B, .int .i64 x.Num.C, .int .i64 x.Num.D, .int .i64 x.Exp]) (resAt_cellA (B := some ⟨b1, 0, none⟩) (i := 0) (cs := [.int .i64 x.Num.A, .int .i64 x.Num.B, .int .i64 x.Num.C, .int .i64 x.Num.D, .int .i64 x.Exp]) (vs := [.int .i64 x.Num.A, .int .i64 x.Num.B, .int .i64 x.Num.C, .int .i64 x.Num.D, .int .i64 x.Exp]) rfl k_ag_116 k_sz_116_5 (hS29.cf (i := 1) rfl) rfl rfl) ⟨rfl, (ST.subR (R' := []) (hS29.sel [] rfl rfl) (fun _ h => by cases h))⟩
                        exact allR_nil
                      exact allR_nil
                    exact allR_nil
                  exact allR_nil
                exact allR_nil
              exact allR_nil
  rintro f w ⟨A, B, C, D, Exp, to_, rfl, hf, hS8⟩
  refine cw_seq ?_
  refine cw_seq ?_
  refine cw_region ?_
  refine sq 114 rfl rfl (Y_move (v := .int .i64 row) rfl (hf.get 2 0 rfl)) ?_
  refine sq 115 rfl rfl (Y_move (v := .int .i64 to_) rfl (hf.get 11 4 rfl)) ?_
  refine sq 116 rfl rfl (Y_eq (k := .i64) (a := row) (b := to_) rfl rfl rfl) ?_
  refine rw_nil ?_
  refine cw_cond (b := (row == to_)) rfl (fun hb8 => ?_) (fun hb8 => ?_)
  · skip
    have hF18 := ct hF1 hb8
    refine cw_seq ?_
    refine cw_region ?_
    refine sq 117 rfl rfl (Y_loadA (B := some ⟨b2, 0, none⟩) (i := 0) (cs := [.int .i64 A, .int .i64 B, .int .i64 C, .int .i64 D, .int .i64 Exp]) (vs := [.int .i64 A, .int .i64 B, .int .i64 C, .int .i64 D, .int .i64 Exp]) k_ag_116 k_sz_116_5 rfl (hf.get 9 2 rfl) (hS8.cf (i := 1) rfl) rfl rfl) ?_
    refine ss0 rfl rfl (Ys_store (i := 0) (s := 5) (B := some ⟨b1, 0, none⟩) (T' := 116) (v := .agg #[.int .i64 A, .int .i64 B, .int .i64 C, .int .i64 D, .int .i64 Exp]) (vs := [.int .i64 A, .int .i64 B, .int .i64 C, .int .i64 D, .int .i64 Exp]) (k := 0) (cs' := [.int .i64 A, .int .i64 B, .int .i64 C, .int .i64 D, .int .i64 Exp]) hS8 k_sz_116_5 rfl (hf.get 8 1 rfl) rfl rfl rfl rfl rfl (Nat.le_of_ble_eq_true rfl) rfl rfl) ?_
    rintro _ w_21 ⟨rfl, hS30⟩
    have hS30 : ST w0 [] _ [⟨some ⟨b1, 0, none⟩, 116, [.int .i64 A, .int .i64 B, .int .i64 C, .int .i64 D, .int .i64 Exp], 5⟩, ⟨some ⟨b2, 0, none⟩, 116, [.int .i64 A, .int .i64 B, .int .i64 C, .int .i64 D, .int .i64 Exp], 5⟩, ⟨some ⟨b3, 0, none⟩, 116, [.int .i64 0, .int .i64 0, .int .i64 0, .int .i64 0, .int .i64 0], 5⟩] [] := hS30
    refine rw_nil ?_
    refine cw_ret ?_
    obtain rfl := some_inj hF18
    exact ret1 Try.results118 (v1 := .agg #[.int .i64 A, .int .i64 B, .int .i64 C, .int .i64 D, .int .i64 Exp]) (resAt_cellA (B := some ⟨b1, 0, none⟩) (i := 0) (cs := [.int .i64 A, .int .i64 B, .int .i64 C, .int .i64 D, .int .i64 Exp]) (vs := [.int .i64 A, .int .i64 B, .int .i64 C, .int .i64 D, .int .i64 Exp]) (hf.get 8 1 rfl) k_ag_116 k_sz_116_5 (hS30.cf (i := 0) rfl) rfl rfl) ⟨rfl, (ST.subR (R' := []) (hS30.sel [] rfl rfl) (fun _ h => by cases h))⟩
  · skip
    have hF19 := cf' hF1 hb8
    refine cw_skip ?_
    refine cw_seq ?_
    refine cw_region ?_
    refine sq 118 rfl rfl (Y_loadA (B := some ⟨b3, 0, none⟩) (i := 0) (cs := [.int .i64 0, .int .i64 0, .int .i64 0, .int .i64 0, .int .i64 0]) (vs := [.int .i64 0, .int .i64 0, .int .i64 0, .int .i64 0, .int .i64 0]) k_ag_116 k_sz_116_5 rfl (hf.get 10 3 rfl) (hS8.cf (i := 2) rfl) rfl rfl) ?_
    refine ss0 rfl rfl (Ys_store (i := 0) (s := 5) (B := some ⟨b1, 0, none⟩) (T' := 116) (v := .agg #[.int .i64 0, .int .i64 0, .int .i64 0, .int .i64 0, .int .i64 0]) (vs := [.int .i64 0, .int .i64 0, .int .i64 0, .int .i64 0, .int .i64 0]) (k := 0) (cs' := [.int .i64 0, .int .i64 0, .int .i64 0, .int .i64 0, .int .i64 0]) hS8 k_sz_116_5 rfl (hf.get 8 1 rfl) rfl rfl rfl rfl rfl (Nat.le_of_ble_eq_true rfl) rfl rfl) ?_
    rintro _ w_22 ⟨rfl, hS31⟩
    have hS31 : ST w0 [] _ [⟨some ⟨b1, 0, none⟩, 116, [.int .i64 0, .int .i64 0, .int .i64 0, .int .i64 0, .int .i64 0], 5⟩, ⟨some ⟨b2, 0, none⟩, 116, [.int .i64 A, .int .i64 B, .int .i64 C, .int .i64 D, .int .i64 Exp], 5⟩, ⟨some ⟨b3, 0, none⟩, 116, [.int .i64 0, .int .i64 0, .int .i64 0, .int .i64 0, .int .i64 0], 5⟩] [] := hS31
    refine rw_nil ?_
    refine cw_ret ?_
    obtain rfl := some_inj hF19
    exact ret1 Try.results118 (v1 := .agg #[.int .i64 0, .int .i64 0, .int .i64 0, .int .i64 0, .int .i64 0]) (resAt_cellA (B := some ⟨b1, 0, none⟩) (i := 0) (cs := [.int .i64 0, .int .i64 0, .int .i64 0, .int .i64 0, .int .i64 0]) (vs := [.int .i64 0, .int .i64 0, .int .i64 0, .int .i64 0, .int .i64 0]) (hf.get 8 1 rfl) k_ag_116 k_sz_116_5 (hS31.cf (i := 0) rfl) rfl rfl) ⟨rfl, (ST.subR (R' := []) (hS31.sel [] rfl rfl) (fun _ h => by cases h))⟩

theorem c_spec_l6Gate (n : Int) (g : TGate)  (w0 : World)  (hS : ST w0 [] w0 [] []) {r_ : TMatrix} (hF : F_spec_l6Gate n g = some r_) :
    CV Try.prog 76 #[.int .i64 n, .agg #[.int .i64 g.Kind, .int .i64 g.A, .int .i64 g.B]] w0 (fun v w' => ∃ (B : Option Addr) (c : Nat), v = .agg #[.int .i64 r_.Rows, .int .i64 r_.Cols, .slice B r_.Cells.length c] ∧ ST w0 [] w' [⟨B, 116, (r_.Cells.flatMap enc_Dyadic), c * 5⟩] []) := by
  unfold F_spec_l6Gate at hF
  refine cv_of_cw 36 Try.func76 rfl Try.ntmps76 rfl ?_
  refine cw_seq ?_
  refine cw_region ?_
  refine ss 3 rfl rfl (Ys_box (T := 109) (v := .agg #[.int .i64 g.Kind, .int .i64 g.A, .int .i64 g.B]) (cs := [.int .i64 g.Kind, .int .i64 g.A, .int .i64 g.B]) (m := 3) hS rfl rfl rfl rfl) ?_
  rintro _ w_ ⟨b, rfl, hS1⟩
  refine ss 4 rfl rfl (Ys_alloc (T := 28) (cs := [.int .i64 0, .int .i64 0, .slice none 0 0]) (m := 3) hS1 k_zero_28 rfl rfl rfl) ?_
  rintro _ w_1 ⟨b1, rfl, hS2⟩
  have hS2 : ST w0 [] _ [⟨some ⟨b, 0, none⟩, 109, [.int .i64 g.Kind, .int .i64 g.A, .int .i64 g.B], 3⟩, ⟨some ⟨b1, 0, none⟩, 28, [.int .i64 0, .int .i64 0, .slice none 0 0], 3⟩] [] := hS2
  refine rw_nil ?_
  refine cw_seq ?_
  refine cw_region ?_
  refine sq 9 rfl rfl (Y_move (v := .int .i64 n) rfl rfl) ?_
  refine sq 10 rfl rfl (Y_conv (k := .i64) (a := n) (T := 3) (T' := 66) k_us_3 k_int_66_u64 rfl rfl) ?_
  obtain ⟨hsh, hF⟩ := chk_inv hF
  refine sq 11 rfl rfl (Y_shl (k := .i64) (a := 1) (k' := .u64) (b := (IntKind.u64.wrap n)) rfl rfl rfl hsh) ?_
  refine sq 5 rfl rfl (Y_assign (v := .int .i64 (shlK .i64 1 (IntKind.u64.wrap n))) rfl rfl) ?_
  refine rw_nil ?_
  refine cw_seq ?_
  refine cw_region ?_
  refine sq 12 rfl rfl (Y_move (v := .int .i64 (shlK .i64 1 (IntKind.u64.wrap n))) rfl rfl) ?_
  refine sq 13 rfl rfl (Y_move (v := .int .i64 (shlK .i64 1 (IntKind.u64.wrap n))) rfl rfl) ?_
  refine sq 14 rfl rfl (Y_buildS (zs := [.int .i64 0, .int .i64 0, .slice none 0 0]) (vs := [(0, .int .i64 (shlK .i64 1 (IntKind.u64.wrap n))), (1, .int .i64 (shlK .i64 1 (IntKind.u64.wrap n)))]) (cs := [.int .i64 (shlK .i64 1 (IntKind.u64.wrap n)), .int .i64 (shlK .i64 1 (IntKind.u64.wrap n)), .slice none 0 0]) k_pl_28 k_zero_28 rfl (mpc rfl (mpc rfl mpn)) rfl) ?_
  refine ss 6 rfl rfl (Ys_alloc (T := 28) (cs := [.int .i64 0, .int .i64 0, .slice none 0 0]) (m := 3) hS2 k_zero_28 rfl rfl rfl) ?_
  rintro _ w_2 ⟨b2, rfl, hS3⟩
  have hS3 : ST w0 [] _ [⟨some ⟨b, 0, none⟩, 109, [.int .i64 g.Kind, .int .i64 g.A, .int .i64 g.B], 3⟩, ⟨some ⟨b1, 0, none⟩, 28, [.int .i64 0, .int .i64 0, .slice none 0 0], 3⟩, ⟨some ⟨b2, 0, none⟩, 28, [.int .i64 0, .int .i64 0, .slice none 0 0], 3⟩] [] := hS3
  refine ss0 rfl rfl (Ys_store (i := 2) (s := 3) (B := some ⟨b2, 0, none⟩) (T' := 28) (v := .agg #[.int .i64 (shlK .i64 1 (IntKind.u64.wrap n)), .int .i64 (shlK .i64 1 (IntKind.u64.wrap n)), .slice none 0 0]) (vs := [.int .i64 (shlK .i64 1 (IntKind.u64.wrap n)), .int .i64 (shlK .i64 1 (IntKind.u64.wrap n)), .slice none 0 0]) (k := 0) (cs' := [.int .i64 (shlK .i64 1 (IntKind.u64.wrap n)), .int .i64 (shlK .i64 1 (IntKind.u64.wrap n)), .slice none 0 0]) hS3 k_sz_28_3 rfl rfl rfl rfl rfl rfl rfl (Nat.le_of_ble_eq_true rfl) rfl rfl) ?_
  rintro _ w_3 ⟨rfl, hS4⟩
  have hS4 : ST w0 [] _ [⟨some ⟨b, 0, none⟩, 109, [.int .i64 g.Kind, .int .i64 g.A, .int .i64 g.B], 3⟩, ⟨some ⟨b1, 0, none⟩, 28, [.int .i64 0, .int .i64 0, .slice none 0 0], 3⟩, ⟨some ⟨b2, 0, none⟩, 28, [.int .i64 (shlK .i64 1 (IntKind.u64.wrap n)), .int .i64 (shlK .i64 1 (IntKind.u64.wrap n)), .slice none 0 0], 3⟩] [] := hS4
  refine rw_nil ?_
  refine cw_seq ?_
  refine cw_seq ?_
  refine cw_region ?_
  refine sq 7 rfl rfl (Y_assign (v := .int .i64 0) rfl rfl) ?_
  refine rw_nil ?_
  obtain ⟨hN, hF⟩ := chk_inv hF
  obtain ⟨z, hz, hF1⟩ := bind_inv hF
  have hS6 := hS4.addNil 116
  refine cw_block ?_
  refine cw_loop (fun k f w => ∃ (i1 : Nat) (Cells : List TDyadic) (B1 : Option Addr) (c1 : Nat), FF f [(0, .int .i64 n), (3, pt (some ⟨b, 0, none⟩) 0), (4, pt (some ⟨b1, 0, none⟩) 0), (5, .int .i64 (shlK .i64 1 (IntKind.u64.wrap n))), (6, pt (some ⟨b2, 0, none⟩) 0), (7, .int .i64 (i1 : Int))] ∧ ST w0 [] w [⟨some ⟨b, 0, none⟩, 109, [.int .i64 g.Kind, .int .i64 g.A, .int .i64 g.B], 3⟩, ⟨some ⟨b1, 0, none⟩, 28, [.int .i64 0, .int .i64 0, .slice none 0 0], 3⟩, ⟨some ⟨b2, 0, none⟩, 28, [.int .i64 (shlK .i64 1 (IntKind.u64.wrap n)), .int .i64 (shlK .i64 1 (IntKind.u64.wrap n)), .slice B1 Cells.length c1], 3⟩, ⟨B1, 116, (Cells.flatMap enc_Dyadic), c1 * 5⟩] [] ∧ i1 + k = (shlK .i64 1 (IntKind.u64.wrap n)).toNat ∧ forN (F_spec_l6Gate_l1 n g) k i1 Cells = some z) ((shlK .i64 1 (IntKind.u64.wrap n)).toNat) ⟨0, [], none, 0, (FF.cons rfl (FF.cons rfl (FF.cons rfl (FF.cons rfl (FF.cons rfl (FF.cons rfl FF.nil)))))), (hS6.sel [0, 1, 2, 3] rfl rfl), Nat.zero_add _, hz⟩ ?_
  rintro k_ f w ⟨i1, Cells, B1, c1, hf, hS5, hik, hL⟩
  refine cw_seq ?_
  refine cw_seq ?_
  refine cw_region ?_
  refine sq 15 rfl rfl (Y_move (v := .int .i64 (i1 : Int)) rfl (hf.get 7 5 rfl)) ?_
  refine sq 16 rfl rfl (Y_move (v := .int .i64 (shlK .i64 1 (IntKind.u64.wrap n))) rfl (hf.get 5 3 rfl)) ?_
  refine sq 17 rfl rfl (Y_lt (k := .i64) (a := (i1 : Int)) (b := (shlK .i64 1 (IntKind.u64.wrap n))) rfl rfl rfl) ?_
  refine rw_nil ?_
  refine cw_cond (b := (decide ((i1 : Int) < (shlK .i64 1 (IntKind.u64.wrap n))))) rfl (fun hlt => ?_) (fun hlt => ?_)
  · skip
    have hlt1 : i1 < (shlK .i64 1 (IntKind.u64.wrap n)).toNat := by have h := of_decide_eq_true hlt; omega
    obtain ⟨k_1, rfl⟩ : ∃ k2, k_ = k2 + 1 := ⟨k_ - 1, by omega⟩
    obtain ⟨y, hb, hL1⟩ := forN_go hL
    unfold F_spec_l6Gate_l1 at hb
    refine cw_skip ?_
    refine cw_seq ?_
    refine cw_block ?_
    refine cw_seq ?_
    refine cw_region ?_
    refine sq 8 rfl rfl (Y_assign (v := .int .i64 0) rfl rfl) ?_
    refine rw_nil ?_
    obtain ⟨hN1, hb⟩ := chk_inv hb
    obtain ⟨z1, hz1, hF2⟩ := bind_inv hb
    refine cw_block ?_
    refine cw_loop (fun k f w => ∃ (j : Nat) (Cells1 : List TDyadic) (B2 : Option Addr) (c2 : Nat), FF f [(0, .int .i64 n), (3, pt (some ⟨b, 0, none⟩) 0), (4, pt (some ⟨b1, 0, none⟩) 0), (5, .int .i64 (shlK .i64 1 (IntKind.u64.wrap n))), (6, pt (some ⟨b2, 0, none⟩) 0), (7, .int .i64 (i1 : Int)), (8, .int .i64 (j : Int))] ∧ ST w0 [] w [⟨some ⟨b, 0, none⟩, 109, [.int .i64 g.Kind, .int .i64 g.A, .int .i64 g.B], 3⟩, ⟨some ⟨b1, 0, none⟩, 28, [.int .i64 0, .int .i64 0, .slice none 0 0], 3⟩, ⟨some ⟨b2, 0, none⟩, 28, [.int .i64 (shlK .i64 1 (IntKind.u64.wrap n)), .int .i64 (shlK .i64 1 (IntKind.u64.wrap n)), .slice B2 Cells1.length c2], 3⟩, ⟨B2, 116, (Cells1.flatMap enc_Dyadic), c2 * 5⟩] [] ∧ j + k = (shlK .i64 1 (IntKind.u64.wrap n)).toNat ∧ forN (F_spec_l6Gate_l2 n g i1) k j Cells1 = some z1) ((shlK .i64 1 (IntKind.u64.wrap n)).toNat) ⟨0, Cells, B1, c1, (FF.cons (hf.get 0 0 rfl) (FF.cons (hf.get 3 1 rfl) (FF.cons (hf.get 4 2 rfl) (FF.cons (hf.get 5 3 rfl) (FF.cons (hf.get 6 4 rfl) (FF.cons (hf.get 7 5 rfl) (FF.cons rfl FF.nil))))))), (hS5.sel [0, 1, 2, 3] rfl rfl), Nat.zero_add _, hz1⟩ ?_
    rintro k_2 f w ⟨j, Cells1, B2, c2, hf1, hS7, hik1, hL2⟩
    refine cw_seq ?_
    refine cw_seq ?_
    refine cw_region ?_
    refine sq 20 rfl rfl (Y_move (v := .int .i64 (j : Int)) rfl (hf1.get 8 6 rfl)) ?_
    refine sq 21 rfl rfl (Y_move (v := .int .i64 (shlK .i64 1 (IntKind.u64.wrap n))) rfl (hf1.get 5 3 rfl)) ?_
    refine sq 22 rfl rfl (Y_lt (k := .i64) (a := (j : Int)) (b := (shlK .i64 1 (IntKind.u64.wrap n))) rfl rfl rfl) ?_
    refine rw_nil ?_
    refine cw_cond (b := (decide ((j : Int) < (shlK .i64 1 (IntKind.u64.wrap n))))) rfl (fun hlt2 => ?_) (fun hlt2 => ?_)
    · skip
      have hlt3 : j < (shlK .i64 1 (IntKind.u64.wrap n)).toNat := by have h := of_decide_eq_true hlt2; omega
      obtain ⟨k_3, rfl⟩ : ∃ k2, k_2 = k2 + 1 := ⟨k_2 - 1, by omega⟩
      obtain ⟨y1, hb1, hL3⟩ := forN_go hL2
      unfold F_spec_l6Gate_l2 at hb1
      refine cw_skip ?_
      refine cw_seq ?_
      refine cw_block ?_
      obtain ⟨r_1, hc, hb1⟩ := bind_inv hb1
      obtain ⟨hap, hb1⟩ := chk_inv hb1
      refine cw_mid (fun f w => ∃ (B4 : Option Addr) (c4 : Nat), FF f [(0, .int .i64 n), (3, pt (some ⟨b, 0, none⟩) 0), (4, pt (some ⟨b1, 0, none⟩) 0), (5, .int .i64 (shlK .i64 1 (IntKind.u64.wrap n))), (6, pt (some ⟨b2, 0, none⟩) 0), (7, .int .i64 (i1 : Int)), (8, .int .i64 (j : Int))] ∧ ST w0 [] w [⟨some ⟨b, 0, none⟩, 109, [.int .i64 g.Kind, .int .i64 g.A, .int .i64 g.B], 3⟩, ⟨some ⟨b1, 0, none⟩, 28, [.int .i64 0, .int .i64 0, .slice none 0 0], 3⟩, ⟨some ⟨b2, 0, none⟩, 28, [.int .i64 (shlK .i64 1 (IntKind.u64.wrap n)), .int .i64 (shlK .i64 1 (IntKind.u64.wrap n)), .slice B4 ((Cells1 ++ [r_1]).length) c4], 3⟩, ⟨B4, 116, ((Cells1 ++ [r_1]).flatMap enc_Dyadic), c4 * 5⟩] []) ?_ ?_
      · skip
        refine ra_start (ST.sel hS7 [0, 1] rfl rfl).fn (by kernel_rfl) ?_
        have hS10 := hS7.drew
        refine ra_q 0 25 (v := pt (some ⟨b2, 0, none⟩) 2) rfl rfl rfl (by kernel_rfl) (by kernel_rfl) (by kernel_rfl) (ST.sel hS10 [0, 1] rfl rfl) (fun w' hw' => (Y_fieldAddr (B := some ⟨b2, 0, none⟩) (i := 0) (s := 0) k_fd_28_2_2_26 k_sz_26_1 rfl (hf1.get 6 4 rfl))) ?_
        refine ra_q 2 27 (v := .int .i64 n) rfl rfl rfl (by kernel_rfl) (by kernel_rfl) (by kernel_rfl) (ST.sel hS10 [0, 1] rfl rfl) (fun w' hw' => (Y_move (v := .int .i64 n) rfl (hf1.get 0 0 rfl))) ?_
        refine ra_q 3 28 (v := .agg #[.int .i64 g.Kind, .int .i64 g.A, .int .i64 g.B]) rfl rfl rfl (by kernel_rfl) (by kernel_rfl) (by kernel_rfl) (ST.sel hS10 [0, 1] rfl rfl) (fun w' hw' => (Y_loadA (B := some ⟨b, 0, none⟩) (i := 0) (cs := [.int .i64 g.Kind, .int .i64 g.A, .int .i64 g.B]) (vs := [.int .i64 g.Kind, .int .i64 g.A, .int .i64 g.B]) k_ag_109 k_sz_109_3 rfl (hf1.get 3 1 rfl) (ST.cf hw' (i := 0) rfl) rfl rfl)) ?_
        refine ra_q 4 29 (v := .int .i64 (i1 : Int)) rfl rfl rfl (by kernel_rfl) (by kernel_rfl) (by kernel_rfl) (ST.sel hS10 [0, 1] rfl rfl) (fun w' hw' => (Y_move (v := .int .i64 (i1 : Int)) rfl (hf1.get 7 5 rfl))) ?_
        refine ra_q 5 30 (v := .int .i64 (j : Int)) rfl rfl rfl (by kernel_rfl) (by kernel_rfl) (by kernel_rfl) (ST.sel hS10 [0, 1] rfl rfl) (fun w' hw' => (Y_move (v := .int .i64 (j : Int)) rfl (hf1.get 8 6 rfl))) ?_
        refine ra_all (rs := [1, 6]) (by kernel_rfl) rfl ?_
        refine ra_y 26 (i := 1) (v := .slice B2 Cells1.length c2) rfl rfl rfl (Y_load1 (B := some ⟨b2, 0, none⟩) (i := 2) (cs := [.int .i64 (shlK .i64 1 (IntKind.u64.wrap n)), .int .i64 (shlK .i64 1 (IntKind.u64.wrap n)), .slice B2 Cells1.length c2]) (v := .slice B2 Cells1.length c2) k_sc_26 rfl rfl (hS10.cf (i := 2) rfl) rfl) (ST.sel hS10 [0, 1] rfl rfl) ?_ ?_
        · skip
          refine ra_all (rs := [6]) (by kernel_rfl) rfl ?_
          refine ra_c 31 (i := 6) rfl rfl rfl (Yc_func (g := 118) (vs := [.int .i64 n, .agg #[.int .i64 g.Kind, .int .i64 g.A, .int .i64 g.B], .int .i64 (i1 : Int), .int .i64 (j : Int)]) k_call_118 rfl (mc rfl (mc rfl (mc rfl (mc rfl mn)))) (c_spec_l6Cell n g (i1 : Int) (j : Int) _  (hS10.inn0 [] rfl) hc)) ?_ ?_
          · rintro _ w_4 ⟨rfl, hd⟩
            have hS11 := hS10.out00 hd
            have hS11 : ST w0 [] _ [⟨some ⟨b, 0, none⟩, 109, [.int .i64 g.Kind, .int .i64 g.A, .int .i64 g.B], 3⟩, ⟨some ⟨b1, 0, none⟩, 28, [.int .i64 0, .int .i64 0, .slice none 0 0], 3⟩, ⟨some ⟨b2, 0, none⟩, 28, [.int .i64 (shlK .i64 1 (IntKind.u64.wrap n)), .int .i64 (shlK .i64 1 (IntKind.u64.wrap n)), .slice B2 Cells1.length c2], 3⟩, ⟨B2, 116, (Cells1.flatMap enc_Dyadic), c2 * 5⟩] [] := hS11
            refine ⟨(ST.sel hS11 [0, 1] rfl rfl), ?_⟩
            refine ra_all (rs := [7]) (by kernel_rfl) rfl ?_
            refine ra_s 32 (i := 7) rfl rfl rfl (Ys_bslice (s := 5) (len := 1) (vs := [(0, .agg #[.int .i64 r_1.Num.A, .int .i64 r_1.Num.B, .int .i64 r_1.Num.C, .int .i64 r_1.Num.D, .int .i64 r_1.Exp])]) (cs := [.int .i64 r_1.Num.A, .int .i64 r_1.Num.B, .int .i64 r_1.Num.C, .int .i64 r_1.Num.D, .int .i64 r_1.Exp]) (zs := [.int .i64 0, .int .i64 0, .int .i64 0, .int .i64 0, .int .i64 0]) (m := 5) hS11 k_sl_26_116 k_sz_116_5 k_zc_116 rfl (mpc rfl mpn) rfl rfl rfl (by kernel_rfl) (by kernel_rfl) rfl) ?_ ?_
            · rintro _ w_5 ⟨b3, rfl, hS12⟩
              have hS12 : ST w0 [] _ [⟨some ⟨b, 0, none⟩, 109, [.int .i64 g.Kind, .int .i64 g.A, .int .i64 g.B], 3⟩, ⟨some ⟨b1, 0, none⟩, 28, [.int .i64 0, .int .i64 0, .slice none 0 0], 3⟩, ⟨some ⟨b2, 0, none⟩, 28, [.int .i64 (shlK .i64 1 (IntKind.u64.wrap n)), .int .i64 (shlK .i64 1 (IntKind.u64.wrap n)), .slice B2 Cells1.length c2], 3⟩, ⟨B2, 116, (Cells1.flatMap enc_Dyadic), c2 * 5⟩, ⟨some ⟨b3, 0, none⟩, 116, ([r_1].flatMap enc_Dyadic), 1 * 5⟩] [] := hS12
              refine ⟨(ST.sel hS12 [0, 1] rfl rfl), ?_⟩
              refine ra_all (rs := [8]) (by kernel_rfl) rfl ?_
              refine ra_s 33 (i := 8) rfl rfl rfl (Ys_append (s := 5) (by' := 40) (i := 3) (nn := Cells1.length) (c := c2) (k := 1) (len := (Cells1 ++ [r_1]).length) (B := B2) (xs := ([r_1].flatMap enc_Dyadic)) (cs' := ((Cells1 ++ [r_1]).flatMap enc_Dyadic)) hS12 k_sl_26_116 k_sz_116_5 k_by_116_40 k_zero_116 rfl (by decide) rfl rfl rfl rfl (fm_lenn (l := Cells1) enc_Dyadic_len rfl) rfl (hS12.cf (i := 4) rfl) (fm_lenn (l := [r_1]) enc_Dyadic_len rfl) (fm_one' (enc := enc_Dyadic) enc_Dyadic_one [r_1]) (by have := hap; omega) (by have := hap; simp only [maxLen]; omega) (fm_app _ _) (app_len (l := Cells1) (l' := [r_1]) rfl rfl)) ?_ ?_
              · rintro _ w_6 ⟨B3, c3, rfl, hS13⟩
                have hS13 : ST w0 [] _ [⟨some ⟨b, 0, none⟩, 109, [.int .i64 g.Kind, .int .i64 g.A, .int .i64 g.B], 3⟩, ⟨some ⟨b1, 0, none⟩, 28, [.int .i64 0, .int .i64 0, .slice none 0 0], 3⟩, ⟨some ⟨b2, 0, none⟩, 28, [.int .i64 (shlK .i64 1 (IntKind.u64.wrap n)), .int .i64 (shlK .i64 1 (IntKind.u64.wrap n)), .slice B2 Cells1.length c2], 3⟩, ⟨B3, 116, ((Cells1 ++ [r_1]).flatMap enc_Dyadic), c3 * 5⟩, ⟨some ⟨b3, 0, none⟩, 116, ([r_1].flatMap enc_Dyadic), 1 * 5⟩] [] := hS13
                refine ⟨(ST.sel hS13 [0, 1] rfl rfl), ?_⟩
                refine ra_q 9 34 (v := pt (some ⟨b2, 0, none⟩) 2) rfl rfl rfl (by kernel_rfl) (by kernel_rfl) (by kernel_rfl) (ST.sel hS13 [0, 1] rfl rfl) (fun w' hw' => (Y_fieldAddr (B := some ⟨b2, 0, none⟩) (i := 0) (s := 0) k_fd_28_2_2_26 k_sz_26_1 rfl (hf1.get 6 4 rfl))) ?_
                refine ra_all (rs := [10]) (by kernel_rfl) rfl ?_
                refine ra_s0 (i := 10) rfl rfl rfl (Ys_store (i := 2) (s := 1) (B := some ⟨b2, 0, none⟩) (T' := 28) (v := .slice B3 ((Cells1 ++ [r_1]).length) c3) (vs := [.slice B3 ((Cells1 ++ [r_1]).length) c3]) (k := 2) (cs' := [.int .i64 (shlK .i64 1 (IntKind.u64.wrap n)), .int .i64 (shlK .i64 1 (IntKind.u64.wrap n)), .slice B3 ((Cells1 ++ [r_1]).length) c3]) hS13 k_sz_26_1 rfl rfl rfl rfl rfl rfl rfl (Nat.le_of_ble_eq_true rfl) rfl rfl) ?_ ?_
                · rintro _ w_7 ⟨rfl, hS14⟩
                  have hS14 : ST w0 [] _ [⟨some ⟨b, 0, none⟩, 109, [.int .i64 g.Kind, .int .i64 g.A, .int .i64 g.B], 3⟩, ⟨some ⟨b1, 0, none⟩, 28, [.int .i64 0, .int .i64 0, .slice none 0 0], 3⟩, ⟨some ⟨b2, 0, none⟩, 28, [.int .i64 (shlK .i64 1 (IntKind.u64.wrap n)), .int .i64 (shlK .i64 1 (IntKind.u64.wrap n)), .slice B3 ((Cells1 ++ [r_1]).length) c3], 3⟩, ⟨B3, 116, ((Cells1 ++ [r_1]).flatMap enc_Dyadic), c3 * 5⟩, ⟨some ⟨b3, 0, none⟩, 116, ([r_1].flatMap enc_Dyadic), 1 * 5⟩] [] := hS14
                  refine ⟨(ST.sel hS14 [0, 1] rfl rfl), ?_⟩
                  refine ra_done (by kernel_rfl) ?_
                  exact ⟨B3, c3, (FF.cons (hf1.get 0 0 rfl) (FF.cons (hf1.get 3 1 rfl) (FF.cons (hf1.get 4 2 rfl) (FF.cons (hf1.get 5 3 rfl) (FF.cons (hf1.get 6 4 rfl) (FF.cons (hf1.get 7 5 rfl) (FF.cons (hf1.get 8 6 rfl) FF.nil))))))), (hS14.sel [0, 1, 2, 3] rfl rfl)⟩
                exact allR_nil
              exact allR_nil
            exact allR_nil
          exact allR_nil
        refine ra_c 31 (i := 6) rfl rfl rfl (Yc_func (g := 118) (vs := [.int .i64 n, .agg #[.int .i64 g.Kind, .int .i64 g.A, .int .i64 g.B], .int .i64 (i1 : Int), .int .i64 (j : Int)]) k_call_118 rfl (mc rfl (mc rfl (mc rfl (mc rfl mn)))) (c_spec_l6Cell n g (i1 : Int) (j : Int) _  (hS10.inn0 [] rfl) hc)) ?_ ?_
        · rintro _ w_8 ⟨rfl, hd1⟩
          have hS15 := hS10.out00 hd1
          have hS15 : ST w0 [] _ [⟨some ⟨b, 0, none⟩, 109, [.int .i64 g.Kind, .int .i64 g.A, .int .i64 g.B], 3⟩, ⟨some ⟨b1, 0, none⟩, 28, [.int .i64 0, .int .i64 0, .slice none 0 0], 3⟩, ⟨some ⟨b2, 0, none⟩, 28, [.int .i64 (shlK .i64 1 (IntKind.u64.wrap n)), .int .i64 (shlK .i64 1 (IntKind.u64.wrap n)), .slice B2 Cells1.length c2], 3⟩, ⟨B2, 116, (Cells1.flatMap enc_Dyadic), c2 * 5⟩] [] := hS15
          refine ⟨(ST.sel hS15 [0, 1] rfl rfl), ?_⟩
          refine ra_all (rs := [1, 7]) (by kernel_rfl) rfl ?_
          refine ra_y 26 (i := 1) (v := .slice B2 Cells1.length c2) rfl rfl rfl (Y_load1 (B := some ⟨b2, 0, none⟩) (i := 2) (cs := [.int .i64 (shlK .i64 1 (IntKind.u64.wrap n)), .int .i64 (shlK .i64 1 (IntKind.u64.wrap n)), .slice B2 Cells1.length c2]) (v := .slice B2 Cells1.length c2) k_sc_26 rfl rfl (hS15.cf (i := 2) rfl) rfl) (ST.sel hS15 [0, 1] rfl rfl) ?_ ?_
          · skip
            refine ra_all (rs := [7]) (by kernel_rfl) rfl ?_
            refine ra_s 32 (i := 7) rfl rfl rfl (Ys_bslice (s := 5) (len := 1) (vs := [(0, .agg #[.int .i64 r_1.Num.A, .int .i64 r_1.Num.B, .int .i64 r_1.Num.C, .int .i64 r_1.Num.D, .int .i64 r_1.Exp])]) (cs := [.int .i64 r_1.Num.A, .int .i64 r_1.Num.B, .int .i64 r_1.Num.C, .int .i64 r_1.Num.D, .int .i64 r_1.Exp]) (zs := [.int .i64 0, .int .i64 0, .int .i64 0, .int .i64 0, .int .i64 0]) (m := 5) hS15 k_sl_26_116 k_sz_116_5 k_zc_116 rfl (mpc rfl mpn) rfl rfl rfl (by kernel_rfl) (by kernel_rfl) rfl) ?_ ?_
            · rintro _ w_9 ⟨b3, rfl, hS16⟩
              have hS16 : ST w0 [] _ [⟨some ⟨b, 0, none⟩, 109, [.int .i64 g.Kind, .int .i64 g.A, .int .i64 g.B], 3⟩, ⟨some ⟨b1, 0, none⟩, 28, [.int .i64 0, .int .i64 0, .slice none 0 0], 3⟩, ⟨some ⟨b2, 0, none⟩, 28, [.int .i64 (shlK .i64 1 (IntKind.u64.wrap n)), .int .i64 (shlK .i64 1 (IntKind.u64.wrap n)), .slice B2 Cells1.length c2], 3⟩, ⟨B2, 116, (Cells1.flatMap enc_Dyadic), c2 * 5⟩, ⟨some ⟨b3, 0, none⟩, 116, ([r_1].flatMap enc_Dyadic), 1 * 5⟩] [] := hS16
              refine ⟨(ST.sel hS16 [0, 1] rfl rfl), ?_⟩
              refine ra_all (rs := [8]) (by kernel_rfl) rfl ?_
              refine ra_s 33 (i := 8) rfl rfl rfl (Ys_append (s := 5) (by' := 40) (i := 3) (nn := Cells1.length) (c := c2) (k := 1) (len := (Cells1 ++ [r_1]).length) (B := B2) (xs := ([r_1].flatMap enc_Dyadic)) (cs' := ((Cells1 ++ [r_1]).flatMap enc_Dyadic)) hS16 k_sl_26_116 k_sz_116_5 k_by_116_40 k_zero_116 rfl (by decide) rfl rfl rfl rfl (fm_lenn (l := Cells1) enc_Dyadic_len rfl) rfl (hS16.cf (i := 4) rfl) (fm_lenn (l := [r_1]) enc_Dyadic_len rfl) (fm_one' (enc := enc_Dyadic) enc_Dyadic_one [r_1]) (by have := hap; omega) (by have := hap; simp only [maxLen]; omega) (fm_app _ _) (app_len (l := Cells1) (l' := [r_1]) rfl rfl)) ?_ ?_
              · rintro _ w_10 ⟨B3, c3, rfl, hS17⟩
                have hS17 : ST w0 [] _ [⟨some ⟨b, 0, none⟩, 109, [.int .i64 g.Kind, .int .i64 g.A, .int .i64 g.B], 3⟩, ⟨some ⟨b1, 0, none⟩, 28, [.int .i64 0, .int .i64 0, .slice none 0 0], 3⟩, ⟨some ⟨b2, 0, none⟩, 28, [.int .i64 (shlK .i64 1 (IntKind.u64.wrap n)), .int .i64 (shlK .i64 1 (IntKind.u64.wrap n)), .slice B2 Cells1.length c2], 3⟩, ⟨B3, 116, ((Cells1 ++ [r_1]).flatMap enc_Dyadic), c3 * 5⟩, ⟨some ⟨b3, 0, none⟩, 116, ([r_1].flatMap enc_Dyadic), 1 * 5⟩] [] := hS17
                refine ⟨(ST.sel hS17 [0, 1] rfl rfl), ?_⟩
                refine ra_q 9 34 (v := pt (some ⟨b2, 0, none⟩) 2) rfl rfl rfl (by kernel_rfl) (by kernel_rfl) (by kernel_rfl) (ST.sel hS17 [0, 1] rfl rfl) (fun w' hw' => (Y_fieldAddr (B := some ⟨b2, 0, none⟩) (i := 0) (s := 0) k_fd_28_2_2_26 k_sz_26_1 rfl (hf1.get 6 4 rfl))) ?_
                refine ra_all (rs := [10]) (by kernel_rfl) rfl ?_
                refine ra_s0 (i := 10) rfl rfl rfl (Ys_store (i := 2) (s := 1) (B := some ⟨b2, 0, none⟩) (T' := 28) (v := .slice B3 ((Cells1 ++ [r_1]).length) c3) (vs := [.slice B3 ((Cells1 ++ [r_1]).length) c3]) (k := 2) (cs' := [.int .i64 (shlK .i64 1 (IntKind.u64.wrap n)), .int .i64 (shlK .i64 1 (IntKind.u64.wrap n)), .slice B3 ((Cells1 ++ [r_1]).length) c3]) hS17 k_sz_26_1 rfl rfl rfl rfl rfl rfl rfl (Nat.le_of_ble_eq_true rfl) rfl rfl) ?_ ?_
                · rintro _ w_11 ⟨rfl, hS18⟩
                  have hS18 : ST w0 [] _ [⟨some ⟨b, 0, none⟩, 109, [.int .i64 g.Kind, .int .i64 g.A, .int .i64 g.B], 3⟩, ⟨some ⟨b1, 0, none⟩, 28, [.int .i64 0, .int .i64 0, .slice none 0 0], 3⟩, ⟨some ⟨b2, 0, none⟩, 28, [.int .i64 (shlK .i64 1 (IntKind.u64.wrap n)), .int .i64 (shlK .i64 1 (IntKind.u64.wrap n)), .slice B3 ((Cells1 ++ [r_1]).length) c3], 3⟩, ⟨B3, 116, ((Cells1 ++ [r_1]).flatMap enc_Dyadic), c3 * 5⟩, ⟨some ⟨b3, 0, none⟩, 116, ([r_1].flatMap enc_Dyadic), 1 * 5⟩] [] := hS18
                  refine ⟨(ST.sel hS18 [0, 1] rfl rfl), ?_⟩
                  refine ra_done (by kernel_rfl) ?_
                  exact ⟨B3, c3, (FF.cons (hf1.get 0 0 rfl) (FF.cons (hf1.get 3 1 rfl) (FF.cons (hf1.get 4 2 rfl) (FF.cons (hf1.get 5 3 rfl) (FF.cons (hf1.get 6 4 rfl) (FF.cons (hf1.get 7 5 rfl) (FF.cons (hf1.get 8 6 rfl) FF.nil))))))), (hS18.sel [0, 1, 2, 3] rfl rfl)⟩
                exact allR_nil
              exact allR_nil
            exact allR_nil
          refine ra_s 32 (i := 7) rfl rfl rfl (Ys_bslice (s := 5) (len := 1) (vs := [(0, .agg #[.int .i64 r_1.Num.A, .int .i64 r_1.Num.B, .int .i64 r_1.Num.C, .int .i64 r_1.Num.D, .int .i64 r_1.Exp])]) (cs := [.int .i64 r_1.Num.A, .int .i64 r_1.Num.B, .int .i64 r_1.Num.C, .int .i64 r_1.Num.D, .int .i64 r_1.Exp]) (zs := [.int .i64 0, .int .i64 0, .int .i64 0, .int .i64 0, .int .i64 0]) (m := 5) hS15 k_sl_26_116 k_sz_116_5 k_zc_116 rfl (mpc rfl mpn) rfl rfl rfl (by kernel_rfl) (by kernel_rfl) rfl) ?_ ?_
          · rintro _ w_12 ⟨b3, rfl, hS19⟩
            have hS19 : ST w0 [] _ [⟨some ⟨b, 0, none⟩, 109, [.int .i64 g.Kind, .int .i64 g.A, .int .i64 g.B], 3⟩, ⟨some ⟨b1, 0, none⟩, 28, [.int .i64 0, .int .i64 0, .slice none 0 0], 3⟩, ⟨some ⟨b2, 0, none⟩, 28, [.int .i64 (shlK .i64 1 (IntKind.u64.wrap n)), .int .i64 (shlK .i64 1 (IntKind.u64.wrap n)), .slice B2 Cells1.length c2], 3⟩, ⟨B2, 116, (Cells1.flatMap enc_Dyadic), c2 * 5⟩, ⟨some ⟨b3, 0, none⟩, 116, ([r_1].flatMap enc_Dyadic), 1 * 5⟩] [] := hS19
            refine ⟨(ST.sel hS19 [0, 1] rfl rfl), ?_⟩
            refine ra_all (rs := [1]) (by kernel_rfl) rfl ?_
            refine ra_y 26 (i := 1) (v := .slice B2 Cells1.length c2) rfl rfl rfl (Y_load1 (B := some ⟨b2, 0, none⟩) (i := 2) (cs := [.int .i64 (shlK .i64 1 (IntKind.u64.wrap n)), .int .i64 (shlK .i64 1 (IntKind.u64.wrap n)), .slice B2 Cells1.length c2]) (v := .slice B2 Cells1.length c2) k_sc_26 rfl rfl (hS19.cf (i := 2) rfl) rfl) (ST.sel hS19 [0, 1] rfl rfl) ?_ ?_
            · skip
              refine ra_all (rs := [8]) (by kernel_rfl) rfl ?_
              refine ra_s 33 (i := 8) rfl rfl rfl (Ys_append (s := 5) (by' := 40) (i := 3) (nn := Cells1.length) (c := c2) (k := 1) (len := (Cells1 ++ [r_1]).length) (B := B2) (xs := ([r_1].flatMap enc_Dyadic)) (cs' := ((Cells1 ++ [r_1]).flatMap enc_Dyadic)) hS19 k_sl_26_116 k_sz_116_5 k_by_116_40 k_zero_116 rfl (by decide) rfl rfl rfl rfl (fm_lenn (l := Cells1) enc_Dyadic_len rfl) rfl (hS19.cf (i := 4) rfl) (fm_lenn (l := [r_1]) enc_Dyadic_len rfl) (fm_one' (enc := enc_Dyadic) enc_Dyadic_one [r_1]) (by have := hap; omega) (by have := hap; simp only [maxLen]; omega) (fm_app _ _) (app_len (l := Cells1) (l' := [r_1]) rfl rfl)) ?_ ?_
              · rintro _ w_13 ⟨B3, c3, rfl, hS20⟩
                have hS20 : ST w0 [] _ [⟨some ⟨b, 0, none⟩, 109, [.int .i64 g.Kind, .int .i64 g.A, .int .i64 g.B], 3⟩, ⟨some ⟨b1, 0, none⟩, 28, [.int .i64 0, .int .i64 0, .slice none 0 0], 3⟩, ⟨some ⟨b2, 0, none⟩, 28, [.int .i64 (shlK .i64 1 (IntKind.u64.wrap n)), .int .i64 (shlK .i64 1 (IntKind.u64.wrap n)), .slice B2 Cells1.length c2], 3⟩, ⟨B3, 116, ((Cells1 ++ [r_1]).flatMap enc_Dyadic), c3 * 5⟩, ⟨some ⟨b3, 0, none⟩, 116, ([r_1].flatMap enc_Dyadic), 1 * 5⟩] [] := hS20
                refine ⟨(ST.sel hS20 [0, 1] rfl rfl), ?_⟩
                refine ra_q 9 34 (v := pt (some ⟨b2, 0, none⟩) 2) rfl rfl rfl (by kernel_rfl) (by kernel_rfl) (by kernel_rfl) (ST.sel hS20 [0, 1] rfl rfl) (fun w' hw' => (Y_fieldAddr (B := some ⟨b2, 0, none⟩) (i := 0) (s := 0) k_fd_28_2_2_26 k_sz_26_1 rfl (hf1.get 6 4 rfl))) ?_
                refine ra_all (rs := [10]) (by kernel_rfl) rfl ?_
                refine ra_s0 (i := 10) rfl rfl rfl (Ys_store (i := 2) (s := 1) (B := some ⟨b2, 0, none⟩) (T' := 28) (v := .slice B3 ((Cells1 ++ [r_1]).length) c3) (vs := [.slice B3 ((Cells1 ++ [r_1]).length) c3]) (k := 2) (cs' := [.int .i64 (shlK .i64 1 (IntKind.u64.wrap n)), .int .i64 (shlK .i64 1 (IntKind.u64.wrap n)), .slice B3 ((Cells1 ++ [r_1]).length) c3]) hS20 k_sz_26_1 rfl rfl rfl rfl rfl rfl rfl (Nat.le_of_ble_eq_true rfl) rfl rfl) ?_ ?_
                · rintro _ w_14 ⟨rfl, hS21⟩
                  have hS21 : ST w0 [] _ [⟨some ⟨b, 0, none⟩, 109, [.int .i64 g.Kind, .int .i64 g.A, .int .i64 g.B], 3⟩, ⟨some ⟨b1, 0, none⟩, 28, [.int .i64 0, .int .i64 0, .slice none 0 0], 3⟩, ⟨some ⟨b2, 0, none⟩, 28, [.int .i64 (shlK .i64 1 (IntKind.u64.wrap n)), .int .i64 (shlK .i64 1 (IntKind.u64.wrap n)), .slice B3 ((Cells1 ++ [r_1]).length) c3], 3⟩, ⟨B3, 116, ((Cells1 ++ [r_1]).flatMap enc_Dyadic), c3 * 5⟩, ⟨some ⟨b3, 0, none⟩, 116, ([r_1].flatMap enc_Dyadic), 1 * 5⟩] [] := hS21
                  refine ⟨(ST.sel hS21 [0, 1] rfl rfl), ?_⟩
                  refine ra_done (by kernel_rfl) ?_
                  exact ⟨B3, c3, (FF.cons (hf1.get 0 0 rfl) (FF.cons (hf1.get 3 1 rfl) (FF.cons (hf1.get 4 2 rfl) (FF.cons (hf1.get 5 3 rfl) (FF.cons (hf1.get 6 4 rfl) (FF.cons (hf1.get 7 5 rfl) (FF.cons (hf1.get 8 6 rfl) FF.nil))))))), (hS21.sel [0, 1, 2, 3] rfl rfl)⟩
                exact allR_nil
              exact allR_nil
            exact allR_nil
          exact allR_nil
        exact allR_nil
      rintro f w ⟨B4, c4, hf2, hS9⟩
      refine cw_region ?_
      refine sq 23 rfl rfl (Y_move (v := .int .i64 (j : Int)) rfl (hf2.get 8 6 rfl)) ?_
      refine sq 24 rfl rfl (Y_add (k := .i64) (a := (j : Int)) (b := 1) rfl rfl rfl) ?_
      refine sq 8 rfl rfl (Y_assign (v := .int .i64 (IntKind.i64.wrap ((j : Int) + 1))) rfl rfl) ?_
      refine rw_nil ?_
      obtain rfl := some_inj hb1
      exact ⟨k_3, Nat.lt_succ_self _, j + 1, (Cells1 ++ [r_1]), B4, c4, (FF.cons (hf2.get 0 0 rfl) (FF.cons (hf2.get 3 1 rfl) (FF.cons (hf2.get 4 2 rfl) (FF.cons (hf2.get 5 3 rfl) (FF.cons (hf2.get 6 4 rfl) (FF.cons (hf2.get 7 5 rfl) (FF.cons (congrArg (Value.int .i64) (wr_succ hlt3 hN1)) FF.nil))))))), (hS9.sel [0, 1, 2, 3] rfl rfl), (by omega), hL3⟩
    · skip
      obtain rfl : k_2 = 0 := by have h := of_decide_eq_false hlt2; omega
      refine cw_exit rfl ?_
      obtain rfl := some_inj hL2
      refine cw_region ?_
      refine sq 18 rfl rfl (Y_move (v := .int .i64 (i1 : Int)) rfl (hf1.get 7 5 rfl)) ?_
      refine sq 19 rfl rfl (Y_add (k := .i64) (a := (i1 : Int)) (b := 1) rfl rfl rfl) ?_
      refine sq 7 rfl rfl (Y_assign (v := .int .i64 (IntKind.i64.wrap ((i1 : Int) + 1))) rfl rfl) ?_
      refine rw_nil ?_
      obtain rfl := some_inj hF2
      exact ⟨k_1, Nat.lt_succ_self _, i1 + 1, Cells1, B2, c2, (FF.cons (hf1.get 0 0 rfl) (FF.cons (hf1.get 3 1 rfl) (FF.cons (hf1.get 4 2 rfl) (FF.cons (hf1.get 5 3 rfl) (FF.cons (hf1.get 6 4 rfl) (FF.cons (congrArg (Value.int .i64) (wr_succ hlt1 hN)) FF.nil)))))), (hS7.sel [0, 1, 2, 3] rfl rfl), (by omega), hL1⟩
  · skip
    obtain rfl : k_ = 0 := by have h := of_decide_eq_false hlt; omega
    refine cw_exit rfl ?_
    obtain rfl := some_inj hL
    refine cw_seq ?_
    refine cw_region ?_
    refine sq 35 rfl rfl (Y_loadA (B := some ⟨b2, 0, none⟩) (i := 0) (cs := [.int .i64 (shlK .i64 1 (IntKind.u64.wrap n)), .int .i64 (shlK .i64 1 (IntKind.u64.wrap n)), .slice B1 Cells.length c1]) (vs := [.int .i64 (shlK .i64 1 (IntKind.u64.wrap n)), .int .i64 (shlK .i64 1 (IntKind.u64.wrap n)), .slice B1 Cells.length c1]) k_ag_28 k_sz_28_3 rfl (hf.get 6 4 rfl) (hS5.cf (i := 2) rfl) rfl rfl) ?_
    refine ss0 rfl rfl (Ys_store (i := 1) (s := 3) (B := some ⟨b1, 0, none⟩) (T' := 28) (v := .agg #[.int .i64 (shlK .i64 1 (IntKind.u64.wrap n)), .int .i64 (shlK .i64 1 (IntKind.u64.wrap n)), .slice B1 Cells.length c1]) (vs := [.int .i64 (shlK .i64 1 (IntKind.u64.wrap n)), .int .i64 (shlK .i64 1 (IntKind.u64.wrap n)), .slice B1 Cells.length c1]) (k := 0) (cs' := [.int .i64 (shlK .i64 1 (IntKind.u64.wrap n)), .int .i64 (shlK .i64 1 (IntKind.u64.wrap n)), .slice B1 Cells.length c1]) hS5 k_sz_28_3 rfl (hf.get 4 2 rfl) rfl rfl rfl rfl rfl (Nat.le_of_ble_eq_true rfl) rfl rfl) ?_
    rintro _ w_15 ⟨rfl, hS22⟩
    have hS22 : ST w0 [] _ [⟨some ⟨b, 0, none⟩, 109, [.int .i64 g.Kind, .int .i64 g.A, .int .i64 g.B], 3⟩, ⟨some ⟨b1, 0, none⟩, 28, [.int .i64 (shlK .i64 1 (IntKind.u64.wrap n)), .int .i64 (shlK .i64 1 (IntKind.u64.wrap n)), .slice B1 Cells.length c1], 3⟩, ⟨some ⟨b2, 0, none⟩, 28, [.int .i64 (shlK .i64 1 (IntKind.u64.wrap n)), .int .i64 (shlK .i64 1 (IntKind.u64.wrap n)), .slice B1 Cells.length c1], 3⟩, ⟨B1, 116, (Cells.flatMap enc_Dyadic), c1 * 5⟩] [] := hS22
    refine rw_nil ?_
    refine cw_ret ?_
    obtain rfl := some_inj hF1
    exact ret1 Try.results76 (v1 := .agg #[.int .i64 (shlK .i64 1 (IntKind.u64.wrap n)), .int .i64 (shlK .i64 1 (IntKind.u64.wrap n)), .slice B1 Cells.length c1]) (resAt_cellA (B := some ⟨b1, 0, none⟩) (i := 0) (cs := [.int .i64 (shlK .i64 1 (IntKind.u64.wrap n)), .int .i64 (shlK .i64 1 (IntKind.u64.wrap n)), .slice B1 Cells.length c1]) (vs := [.int .i64 (shlK .i64 1 (IntKind.u64.wrap n)), .int .i64 (shlK .i64 1 (IntKind.u64.wrap n)), .slice B1 Cells.length c1]) (hf.get 4 2 rfl) k_ag_28 k_sz_28_3 (hS22.cf (i := 1) rfl) rfl rfl) ⟨B1, c1, rfl, (ST.subR (R' := []) (hS22.sel [3] rfl rfl) (fun _ h => by cases h))⟩

theorem c_spec_l2C_run (c : Tl2C) (x : TCircuit) (m : TMatrix) (B : Option Addr) (B1 : Option Addr) (c1 n : Nat) (B2 : Option Addr) (c2 n1 : Nat) (w0 : World) (hn : x.Gates.length = n) (hn1 : m.Cells.length = n1) (hS : ST w0 (bl [⟨B, 69, [.bool c.bad], 1⟩, ⟨B2, 116, (m.Cells.flatMap enc_Dyadic), c2 * 5⟩]) w0 [⟨B, 69, [.bool c.bad], 1⟩, ⟨B2, 116, (m.Cells.flatMap enc_Dyadic), c2 * 5⟩] [⟨B1, (x.Gates.flatMap enc_Gate)⟩]) {r_ : TMatrix} {m1 : Tl2C} (hF : F_spec_l2C_run c x m = some (r_, m1)) :
    CV Try.prog 31 #[pt B 0, .agg #[.int .i64 x.Qubits, .slice B1 n c1], .agg #[.int .i64 m.Rows, .int .i64 m.Cols, .slice B2 n1 c2]] w0 (fun v w' => ∃ (B3 : Option Addr) (c3 : Nat), v = .agg #[.int .i64 r_.Rows, .int .i64 r_.Cols, .slice B3 r_.Cells.length c3] ∧ ST w0 (bl [⟨B, 69, [.bool c.bad], 1⟩, ⟨B2, 116, (m.Cells.flatMap enc_Dyadic), c2 * 5⟩]) w' [⟨B, 69, [.bool m1.bad], 1⟩, ⟨B3, 116, (r_.Cells.flatMap enc_Dyadic), c3 * 5⟩] []) := by
  subst hn
  subst hn1
  unfold F_spec_l2C_run at hF
  refine cv_of_cw 30 Try.func31 rfl Try.ntmps31 rfl ?_
  refine cw_seq ?_
  refine cw_region ?_
  refine ss 4 rfl rfl (Ys_box (T := 33) (v := .agg #[.int .i64 x.Qubits, .slice B1 x.Gates.length c1]) (cs := [.int .i64 x.Qubits, .slice B1 x.Gates.length c1]) (m := 2) hS rfl rfl rfl rfl) ?_
  rintro _ w_ ⟨b, rfl, hS1⟩
  have hS1 : ST w0 (bl [⟨B, 69, [.bool c.bad], 1⟩, ⟨B2, 116, (m.Cells.flatMap enc_Dyadic), c2 * 5⟩]) _ [⟨B, 69, [.bool c.bad], 1⟩, ⟨B2, 116, (m.Cells.flatMap enc_Dyadic), c2 * 5⟩, ⟨some ⟨b, 0, none⟩, 33, [.int .i64 x.Qubits, .slice B1 x.Gates.length c1], 2⟩] [⟨B1, (x.Gates.flatMap enc_Gate)⟩] := hS1
  refine ss 5 rfl rfl (Ys_box (T := 28) (v := .agg #[.int .i64 m.Rows, .int .i64 m.Cols, .slice B2 m.Cells.length c2]) (cs := [.int .i64 m.Rows, .int .i64 m.Cols, .slice B2 m.Cells.length c2]) (m := 3) hS1 rfl rfl rfl rfl) ?_
  rintro _ w_1 ⟨b1, rfl, hS2⟩
  have hS2 : ST w0 (bl [⟨B, 69, [.bool c.bad], 1⟩, ⟨B2, 116, (m.Cells.flatMap enc_Dyadic), c2 * 5⟩]) _ [⟨B, 69, [.bool c.bad], 1⟩, ⟨B2, 116, (m.Cells.flatMap enc_Dyadic), c2 * 5⟩, ⟨some ⟨b, 0, none⟩, 33, [.int .i64 x.Qubits, .slice B1 x.Gates.length c1], 2⟩, ⟨some ⟨b1, 0, none⟩, 28, [.int .i64 m.Rows, .int .i64 m.Cols, .slice B2 m.Cells.length c2], 3⟩] [⟨B1, (x.Gates.flatMap enc_Gate)⟩] := hS2
  refine ss 6 rfl rfl (Ys_alloc (T := 28) (cs := [.int .i64 0, .int .i64 0, .slice none 0 0]) (m := 3) hS2 k_zero_28 rfl rfl rfl) ?_
  rintro _ w_2 ⟨b2, rfl, hS3⟩
  have hS3 : ST w0 (bl [⟨B, 69, [.bool c.bad], 1⟩, ⟨B2, 116, (m.Cells.flatMap enc_Dyadic), c2 * 5⟩]) _ [⟨B, 69, [.bool c.bad], 1⟩, ⟨B2, 116, (m.Cells.flatMap enc_Dyadic), c2 * 5⟩, ⟨some ⟨b, 0, none⟩, 33, [.int .i64 x.Qubits, .slice B1 x.Gates.length c1], 2⟩, ⟨some ⟨b1, 0, none⟩, 28, [.int .i64 m.Rows, .int .i64 m.Cols, .slice B2 m.Cells.length c2], 3⟩, ⟨some ⟨b2, 0, none⟩, 28, [.int .i64 0, .int .i64 0, .slice none 0 0], 3⟩] [⟨B1, (x.Gates.flatMap enc_Gate)⟩] := hS3
  refine rw_nil ?_
  refine cw_seq ?_
  refine cw_seq ?_
  refine cw_region ?_
  refine sq 9 rfl rfl (Y_fieldAddr (B := some ⟨b, 0, none⟩) (i := 0) (s := 0) k_fd_33_1_1_31 k_sz_31_1 rfl rfl) ?_
  refine sq 10 rfl rfl (Y_load1 (B := some ⟨b, 0, none⟩) (i := 1) (cs := [.int .i64 x.Qubits, .slice B1 x.Gates.length c1]) (v := .slice B1 x.Gates.length c1) k_sc_31 rfl rfl (hS3.cf (i := 2) rfl) rfl) ?_
  refine sq 11 rfl rfl (Y_len (B := B1) (m := x.Gates.length) (c := c1) k_sl_31_109 rfl rfl) ?_
  refine sq 12 rfl rfl (Y_move (v := .int .i64 0) rfl rfl) ?_
  refine rw_nil ?_
  obtain ⟨hN, hF⟩ := chk_inv hF
  obtain ⟨z, hz, hF1⟩ := bind_inv hF
  refine cw_block ?_
  refine cw_loop (fun k f w => ∃ (i : Nat) (bad : Bool) (Rows : Int) (Cols : Int) (Cells : List TDyadic) (B4 : Option Addr) (c4 : Nat), FF f [(0, pt B 0), (4, pt (some ⟨b, 0, none⟩) 0), (5, pt (some ⟨b1, 0, none⟩) 0), (6, pt (some ⟨b2, 0, none⟩) 0), (10, .slice B1 x.Gates.length c1), (11, .int .i64 (x.Gates.length : Int)), (12, .int .i64 (i : Int))] ∧ ST w0 (bl [⟨B, 69, [.bool c.bad], 1⟩, ⟨B2, 116, (m.Cells.flatMap enc_Dyadic), c2 * 5⟩]) w [⟨B, 69, [.bool bad], 1⟩, ⟨some ⟨b, 0, none⟩, 33, [.int .i64 x.Qubits, .slice B1 x.Gates.length c1], 2⟩, ⟨some ⟨b1, 0, none⟩, 28, [.int .i64 Rows, .int .i64 Cols, .slice B4 Cells.length c4], 3⟩, ⟨B4, 116, (Cells.flatMap enc_Dyadic), c4 * 5⟩, ⟨some ⟨b2, 0, none⟩, 28, [.int .i64 0, .int .i64 0, .slice none 0 0], 3⟩] [⟨B1, (x.Gates.flatMap enc_Gate)⟩] ∧ i + k = x.Gates.length ∧ forN (F_spec_l2C_run_l1 x) k i (bad, Rows, Cols, Cells) = some z) x.Gates.length ⟨0, c.bad, m.Rows, m.Cols, m.Cells, B2, c2, (FF.cons rfl (FF.cons rfl (FF.cons rfl (FF.cons rfl (FF.cons rfl (FF.cons rfl (FF.cons rfl FF.nil))))))), (hS3.sel [0, 2, 3, 1, 4] rfl rfl), Nat.zero_add _, hz⟩ ?_
  rintro k_ f w ⟨i, bad, Rows, Cols, Cells, B4, c4, hf, hS4, hik, hL⟩
  refine cw_seq ?_
  refine cw_region ?_
  refine sq 13 rfl rfl (Y_lt (k := .i64) (a := (i : Int)) (b := (x.Gates.length : Int)) rfl (hf.get 12 6 rfl) (hf.get 11 5 rfl)) ?_
  refine rw_nil ?_
  refine cw_seq ?_
  refine cw_cond (b := (decide ((i : Int) < (x.Gates.length : Int)))) rfl (fun hlt => ?_) (fun hlt => ?_)
  · skip
    have hlt1 : i < x.Gates.length := by have h := of_decide_eq_true hlt; omega
    obtain ⟨k_1, rfl⟩ : ∃ k2, k_ = k2 + 1 := ⟨k_ - 1, by omega⟩
    obtain ⟨y, hb, hL1⟩ := forN_go hL
    unfold F_spec_l2C_run_l1 at hb
    refine cw_skip ?_
    refine cw_seq ?_
    obtain ⟨z1, hz1, hF2⟩ := bind_inv hb
    refine cw_mid (fun f w => ∃ (bad1 : Bool) (Rows1 : Int) (Cols1 : Int) (Cells1 : List TDyadic) (B5 : Option Addr) (c5 : Nat), (bad1, Rows1, Cols1, Cells1) = z1 ∧ FF f [(0, pt B 0), (4, pt (some ⟨b, 0, none⟩) 0), (5, pt (some ⟨b1, 0, none⟩) 0), (6, pt (some ⟨b2, 0, none⟩) 0), (10, .slice B1 x.Gates.length c1), (11, .int .i64 (x.Gates.length : Int)), (12, .int .i64 (i : Int))] ∧ ST w0 (bl [⟨B, 69, [.bool c.bad], 1⟩, ⟨B2, 116, (m.Cells.flatMap enc_Dyadic), c2 * 5⟩]) w [⟨B, 69, [.bool bad1], 1⟩, ⟨some ⟨b, 0, none⟩, 33, [.int .i64 x.Qubits, .slice B1 x.Gates.length c1], 2⟩, ⟨some ⟨b1, 0, none⟩, 28, [.int .i64 Rows1, .int .i64 Cols1, .slice B5 Cells1.length c5], 3⟩, ⟨B5, 116, (Cells1.flatMap enc_Dyadic), c5 * 5⟩, ⟨some ⟨b2, 0, none⟩, 28, [.int .i64 0, .int .i64 0, .slice none 0 0], 3⟩] [⟨B1, (x.Gates.flatMap enc_Gate)⟩]) ?_ ?_
    · skip
      refine cw_block ?_
      refine cw_seq ?_
      refine cw_region ?_
      obtain ⟨x1, hx, hz1⟩ := bind_inv hz1
      refine sq 14 rfl rfl (Y_index (B := B1) (m := x.Gates.length) (c := c1) (k := .i64) (i := (i : Int)) k_sl_31_109 k_sz_109_3 rfl (hf.get 10 4 rfl) (hf.get 12 6 rfl) (gi_isSome enc_Gate_len rfl (hS4.rf (i := 0) rfl) hx) (getI_nn hx) (getI_ltI hx rfl)) ?_
      refine sq 15 rfl rfl (Y_loadA (B := B1) (i := (i : Int).toNat * 3) (cs := (x.Gates.flatMap enc_Gate)) (vs := [.int .i64 x1.Kind, .int .i64 x1.A, .int .i64 x1.B]) k_ag_109 k_sz_109_3 rfl rfl (hS4.rf (i := 0) rfl) (enc_Gate_len x1) (gi_seg enc_Gate_len hx)) ?_
      refine ss 8 rfl rfl (Ys_alloc (T := 109) (cs := [.int .i64 0, .int .i64 0, .int .i64 0]) (m := 3) hS4 k_zero_109 rfl rfl rfl) ?_
      rintro _ w_3 ⟨b3, rfl, hS6⟩
      have hS6 : ST w0 (bl [⟨B, 69, [.bool c.bad], 1⟩, ⟨B2, 116, (m.Cells.flatMap enc_Dyadic), c2 * 5⟩]) _ [⟨B, 69, [.bool bad], 1⟩, ⟨some ⟨b, 0, none⟩, 33, [.int .i64 x.Qubits, .slice B1 x.Gates.length c1], 2⟩, ⟨some ⟨b1, 0, none⟩, 28, [.int .i64 Rows, .int .i64 Cols, .slice B4 Cells.length c4], 3⟩, ⟨B4, 116, (Cells.flatMap enc_Dyadic), c4 * 5⟩, ⟨some ⟨b2, 0, none⟩, 28, [.int .i64 0, .int .i64 0, .slice none 0 0], 3⟩, ⟨some ⟨b3, 0, none⟩, 109, [.int .i64 0, .int .i64 0, .int .i64 0], 3⟩] [⟨B1, (x.Gates.flatMap enc_Gate)⟩] := hS6
      refine ss0 rfl rfl (Ys_store (i := 5) (s := 3) (B := some ⟨b3, 0, none⟩) (T' := 109) (v := .agg #[.int .i64 x1.Kind, .int .i64 x1.A, .int .i64 x1.B]) (vs := [.int .i64 x1.Kind, .int .i64 x1.A, .int .i64 x1.B]) (k := 0) (cs' := [.int .i64 x1.Kind, .int .i64 x1.A, .int .i64 x1.B]) hS6 k_sz_109_3 rfl rfl rfl rfl rfl rfl rfl (Nat.le_of_ble_eq_true rfl) rfl rfl) ?_
      rintro _ w_4 ⟨rfl, hS7⟩
      have hS7 : ST w0 (bl [⟨B, 69, [.bool c.bad], 1⟩, ⟨B2, 116, (m.Cells.flatMap enc_Dyadic), c2 * 5⟩]) _ [⟨B, 69, [.bool bad], 1⟩, ⟨some ⟨b, 0, none⟩, 33, [.int .i64 x.Qubits, .slice B1 x.Gates.length c1], 2⟩, ⟨some ⟨b1, 0, none⟩, 28, [.int .i64 Rows, .int .i64 Cols, .slice B4 Cells.length c4], 3⟩, ⟨B4, 116, (Cells.flatMap enc_Dyadic), c4 * 5⟩, ⟨some ⟨b2, 0, none⟩, 28, [.int .i64 0, .int .i64 0, .slice none 0 0], 3⟩, ⟨some ⟨b3, 0, none⟩, 109, [.int .i64 x1.Kind, .int .i64 x1.A, .int .i64 x1.B], 3⟩] [⟨B1, (x.Gates.flatMap enc_Gate)⟩] := hS7
      refine rw_nil ?_
      refine cw_seq ?_
      refine cw_region ?_
      refine sq 16 rfl rfl (Y_move (v := pt B 0) rfl (hf.get 0 0 rfl)) ?_
      refine sq 17 rfl rfl (Y_nilCheck (B := B) (i := 0) rfl rfl) ?_
      refine sq 18 rfl rfl (Y_fieldAddr (B := B) (i := 0) (s := 0) k_fd_69_0_0_4 k_sz_4_1 rfl rfl) ?_
      refine sq 19 rfl rfl (Y_load1 (B := B) (i := 0) (cs := [.bool bad]) (v := .bool bad) k_sc_4 rfl rfl (hS7.cf (i := 0) rfl) rfl) ?_
      refine sq 20 rfl rfl (Y_not (p := bad) rfl rfl) ?_
      refine rw_nil ?_
      refine cw_cond (b := (!bad)) rfl (fun hb1 => ?_) (fun hb1 => ?_)
      · skip
        have hF3 := ct hz1 hb1
        obtain ⟨r_1, hc, hF3⟩ := bind_inv hF3
        obtain ⟨⟨r_2, m2⟩, hc1, hF3⟩ := bind_inv hF3
        refine cw_mid (fun f w => ∃ (B8 : Option Addr) (c8 : Nat), FF f [(0, pt B 0), (4, pt (some ⟨b, 0, none⟩) 0), (5, pt (some ⟨b1, 0, none⟩) 0), (6, pt (some ⟨b2, 0, none⟩) 0), (10, .slice B1 x.Gates.length c1), (11, .int .i64 (x.Gates.length : Int)), (12, .int .i64 (i : Int))] ∧ ST w0 (bl [⟨B, 69, [.bool c.bad], 1⟩, ⟨B2, 116, (m.Cells.flatMap enc_Dyadic), c2 * 5⟩]) w [⟨B, 69, [.bool m2.bad], 1⟩, ⟨some ⟨b, 0, none⟩, 33, [.int .i64 x.Qubits, .slice B1 x.Gates.length c1], 2⟩, ⟨some ⟨b1, 0, none⟩, 28, [.int .i64 r_2.Rows, .int .i64 r_2.Cols, .slice B8 r_2.Cells.length c8], 3⟩, ⟨B8, 116, (r_2.Cells.flatMap enc_Dyadic), c8 * 5⟩, ⟨some ⟨b2, 0, none⟩, 28, [.int .i64 0, .int .i64 0, .slice none 0 0], 3⟩] [⟨B1, (x.Gates.flatMap enc_Gate)⟩]) ?_ ?_
        · skip
          refine ra_start (ST.sel hS7 [1, 3, 4, 5] rfl rfl).fn (by kernel_rfl) ?_
          have hS11 := hS7.drew
          refine ra_q 0 21 (v := pt B 0) rfl rfl rfl (by kernel_rfl) (by kernel_rfl) (by kernel_rfl) (ST.sel hS11 [1, 3, 4, 5] rfl rfl) (fun w' hw' => (Y_move (v := pt B 0) rfl (hf.get 0 0 rfl))) ?_
          refine ra_q 1 22 (v := pt (some ⟨b, 0, none⟩) 0) rfl rfl rfl (by kernel_rfl) (by kernel_rfl) (by kernel_rfl) (ST.sel hS11 [1, 3, 4, 5] rfl rfl) (fun w' hw' => (Y_fieldAddr (B := some ⟨b, 0, none⟩) (i := 0) (s := 0) k_fd_33_0_0_3 k_sz_3_1 rfl (hf.get 4 1 rfl))) ?_
          refine ra_q 2 23 (v := .int .i64 x.Qubits) rfl rfl rfl (by kernel_rfl) (by kernel_rfl) (by kernel_rfl) (ST.sel hS11 [1, 3, 4, 5] rfl rfl) (fun w' hw' => (Y_load1 (B := some ⟨b, 0, none⟩) (i := 0) (cs := [.int .i64 x.Qubits, .slice B1 x.Gates.length c1]) (v := .int .i64 x.Qubits) k_sc_3 rfl rfl (ST.cf hw' (i := 0) rfl) rfl)) ?_
          refine ra_q 3 24 (v := .agg #[.int .i64 x1.Kind, .int .i64 x1.A, .int .i64 x1.B]) rfl rfl rfl (by kernel_rfl) (by kernel_rfl) (by kernel_rfl) (ST.sel hS11 [1, 3, 4, 5] rfl rfl) (fun w' hw' => (Y_loadA (B := some ⟨b3, 0, none⟩) (i := 0) (cs := [.int .i64 x1.Kind, .int .i64 x1.A, .int .i64 x1.B]) (vs := [.int .i64 x1.Kind, .int .i64 x1.A, .int .i64 x1.B]) k_ag_109 k_sz_109_3 rfl rfl (ST.cf hw' (i := 3) rfl) rfl rfl)) ?_
          refine ra_all (rs := [4, 5]) (by kernel_rfl) rfl ?_
          refine ra_c 25 (i := 4) rfl rfl rfl (Yc_func (g := 76) (vs := [.int .i64 x.Qubits, .agg #[.int .i64 x1.Kind, .int .i64 x1.A, .int .i64 x1.B]]) k_call_76 rfl (mc rfl (mc rfl mn)) (c_spec_l6Gate x.Qubits x1 _  (hS11.inn0 [] rfl) hc)) ?_ ?_
          · rintro _ w_5 ⟨B6, c6, rfl, hd⟩
            have hS12 := hS11.out0 hd
            have hS12 : ST w0 (bl [⟨B, 69, [.bool c.bad], 1⟩, ⟨B2, 116, (m.Cells.flatMap enc_Dyadic), c2 * 5⟩]) _ [⟨B, 69, [.bool bad], 1⟩, ⟨some ⟨b, 0, none⟩, 33, [.int .i64 x.Qubits, .slice B1 x.Gates.length c1], 2⟩, ⟨some ⟨b1, 0, none⟩, 28, [.int .i64 Rows, .int .i64 Cols, .slice B4 Cells.length c4], 3⟩, ⟨B4, 116, (Cells.flatMap enc_Dyadic), c4 * 5⟩, ⟨some ⟨b2, 0, none⟩, 28, [.int .i64 0, .int .i64 0, .slice none 0 0], 3⟩, ⟨some ⟨b3, 0, none⟩, 109, [.int .i64 x1.Kind, .int .i64 x1.A, .int .i64 x1.B], 3⟩, ⟨B6, 116, (r_1.Cells.flatMap enc_Dyadic), c6 * 5⟩] [⟨B1, (x.Gates.flatMap enc_Gate)⟩] := hS12
            refine ⟨(ST.sel hS12 [1, 3, 4, 5] rfl rfl), ?_⟩
            refine ra_all (rs := [5]) (by kernel_rfl) rfl ?_
            refine ra_y 26 (i := 5) (v := .agg #[.int .i64 Rows, .int .i64 Cols, .slice B4 Cells.length c4]) rfl rfl rfl (Y_loadA (B := some ⟨b1, 0, none⟩) (i := 0) (cs := [.int .i64 Rows, .int .i64 Cols, .slice B4 Cells.length c4]) (vs := [.int .i64 Rows, .int .i64 Cols, .slice B4 Cells.length c4]) k_ag_28 k_sz_28_3 rfl (hf.get 5 2 rfl) (hS12.cf (i := 2) rfl) rfl rfl) (ST.sel hS12 [1, 3, 4, 5] rfl rfl) ?_ ?_
            · skip
              refine ra_all (rs := [6]) (by kernel_rfl) rfl ?_
              refine ra_c 27 (i := 6) rfl rfl rfl (Yc_func (g := 75) (vs := [pt B 0, .agg #[.int .i64 r_1.Rows, .int .i64 r_1.Cols, .slice B6 r_1.Cells.length c6], .agg #[.int .i64 Rows, .int .i64 Cols, .slice B4 Cells.length c4]]) k_call_75 rfl (mc rfl (mc rfl (mc rfl mn))) (c_spec_l2C_times (Tl2C.mk bad) r_1 (TMatrix.mk Rows Cols Cells) B B6 c6 r_1.Cells.length B4 c4 Cells.length _ rfl rfl (hS12.inn [true, false, false, false, false, false, false] rfl [(false, 5), (false, 2)] rfl) hc1)) ?_ ?_
              · rintro _ w_6 ⟨B7, c7, rfl, hd1⟩
                have hS13 := hS12.out [true, false, false, false, false, false, false] rfl hd1
                have hS13 : ST w0 (bl [⟨B, 69, [.bool c.bad], 1⟩, ⟨B2, 116, (m.Cells.flatMap enc_Dyadic), c2 * 5⟩]) _ [⟨some ⟨b, 0, none⟩, 33, [.int .i64 x.Qubits, .slice B1 x.Gates.length c1], 2⟩, ⟨some ⟨b1, 0, none⟩, 28, [.int .i64 Rows, .int .i64 Cols, .slice B4 Cells.length c4], 3⟩, ⟨B4, 116, (Cells.flatMap enc_Dyadic), c4 * 5⟩, ⟨some ⟨b2, 0, none⟩, 28, [.int .i64 0, .int .i64 0, .slice none 0 0], 3⟩, ⟨some ⟨b3, 0, none⟩, 109, [.int .i64 x1.Kind, .int .i64 x1.A, .int .i64 x1.B], 3⟩, ⟨B6, 116, (r_1.Cells.flatMap enc_Dyadic), c6 * 5⟩, ⟨B, 69, [.bool m2.bad], 1⟩, ⟨B7, 116, (r_2.Cells.flatMap enc_Dyadic), c7 * 5⟩] [⟨B1, (x.Gates.flatMap enc_Gate)⟩] := hS13
                refine ⟨(ST.sel hS13 [0, 2, 3, 4] rfl rfl), ?_⟩
                refine ra_all (rs := [7]) (by kernel_rfl) rfl ?_
                refine ra_s0 (i := 7) rfl rfl rfl (Ys_store (i := 1) (s := 3) (B := some ⟨b1, 0, none⟩) (T' := 28) (v := .agg #[.int .i64 r_2.Rows, .int .i64 r_2.Cols, .slice B7 r_2.Cells.length c7]) (vs := [.int .i64 r_2.Rows, .int .i64 r_2.Cols, .slice B7 r_2.Cells.length c7]) (k := 0) (cs' := [.int .i64 r_2.Rows, .int .i64 r_2.Cols, .slice B7 r_2.Cells.length c7]) hS13 k_sz_28_3 rfl (hf.get 5 2 rfl) rfl rfl rfl rfl rfl (Nat.le_of_ble_eq_true rfl) rfl rfl) ?_ ?_
                · rintro _ w_7 ⟨rfl, hS14⟩
                  have hS14 : ST w0 (bl [⟨B, 69, [.bool c.bad], 1⟩, ⟨B2, 116, (m.Cells.flatMap enc_Dyadic), c2 * 5⟩]) _ [⟨some ⟨b, 0, none⟩, 33, [.int .i64 x.Qubits, .slice B1 x.Gates.length c1], 2⟩, ⟨some ⟨b1, 0, none⟩, 28, [.int .i64 r_2.Rows, .int .i64 r_2.Cols, .slice B7 r_2.Cells.length c7], 3⟩, ⟨B4, 116, (Cells.flatMap enc_Dyadic), c4 * 5⟩, ⟨some ⟨b2, 0, none⟩, 28, [.int .i64 0, .int .i64 0, .slice none 0 0], 3⟩, ⟨some ⟨b3, 0, none⟩, 109, [.int .i64 x1.Kind, .int .i64 x1.A, .int .i64 x1.B], 3⟩, ⟨B6, 116, (r_1.Cells.flatMap enc_Dyadic), c6 * 5⟩, ⟨B, 69, [.bool m2.bad], 1⟩, ⟨B7, 116, (r_2.Cells.flatMap enc_Dyadic), c7 * 5⟩] [⟨B1, (x.Gates.flatMap enc_Gate)⟩] := hS14
                  refine ⟨(ST.sel hS14 [0, 2, 3, 4] rfl rfl), ?_⟩
                  refine ra_done (by kernel_rfl) ?_
                  exact ⟨B7, c7, (FF.cons (hf.get 0 0 rfl) (FF.cons (hf.get 4 1 rfl) (FF.cons (hf.get 5 2 rfl) (FF.cons (hf.get 6 3 rfl) (FF.cons (hf.get 10 4 rfl) (FF.cons (hf.get 11 5 rfl) (FF.cons (hf.get 12 6 rfl) FF.nil))))))), (hS14.sel [6, 0, 1, 7, 3] rfl rfl)⟩
                exact allR_nil
              exact allR_nil
            exact allR_nil
          refine ra_y 26 (i := 5) (v := .agg #[.int .i64 Rows, .int .i64 Cols, .slice B4 Cells.length c4]) rfl rfl rfl (Y_loadA (B := some ⟨b1, 0, none⟩) (i := 0) (cs := [.int .i64 Rows, .int .i64 Cols, .slice B4 Cells.length c4]) (vs := [.int .i64 Rows, .int .i64 Cols, .slice B4 Cells.length c4]) k_ag_28 k_sz_28_3 rfl (hf.get 5 2 rfl) (hS11.cf (i := 2) rfl) rfl rfl) (ST.sel hS11 [1, 3, 4, 5] rfl rfl) ?_ ?_
          · skip
            refine ra_all (rs := [4]) (by kernel_rfl) rfl ?_
            refine ra_c 25 (i := 4) rfl rfl rfl (Yc_func (g := 76) (vs := [.int .i64 x.Qubits, .agg #[.int .i64 x1.Kind, .int .i64 x1.A, .int .i64 x1.B]]) k_call_76 rfl (mc rfl (mc rfl mn)) (c_spec_l6Gate x.Qubits x1 _  (hS11.inn0 [] rfl) hc)) ?_ ?_
            · rintro _ w_8 ⟨B6, c6, rfl, hd2⟩
              have hS15 := hS11.out0 hd2
              have hS15 : ST w0 (bl [⟨B, 69, [.bool c.bad], 1⟩, ⟨B2, 116, (m.Cells.flatMap enc_Dyadic), c2 * 5⟩]) _ [⟨B, 69, [.bool bad], 1⟩, ⟨some ⟨b, 0, none⟩, 33, [.int .i64 x.Qubits, .slice B1 x.Gates.length c1], 2⟩, ⟨some ⟨b1, 0, none⟩, 28, [.int .i64 Rows, .int .i64 Cols, .slice B4 Cells.length c4], 3⟩, ⟨B4, 116, (Cells.flatMap enc_Dyadic), c4 * 5⟩, ⟨some ⟨b2, 0, none⟩, 28, [.int .i64 0, .int .i64 0, .slice none 0 0], 3⟩, ⟨some ⟨b3, 0, none⟩, 109, [.int .i64 x1.Kind, .int .i64 x1.A, .int .i64 x1.B], 3⟩, ⟨B6, 116, (r_1.Cells.flatMap enc_Dyadic), c6 * 5⟩] [⟨B1, (x.Gates.flatMap enc_Gate)⟩] := hS15
              refine ⟨(ST.sel hS15 [1, 3, 4, 5] rfl rfl), ?_⟩
              refine ra_all (rs := [6]) (by kernel_rfl) rfl ?_
              refine ra_c 27 (i := 6) rfl rfl rfl (Yc_func (g := 75) (vs := [pt B 0, .agg #[.int .i64 r_1.Rows, .int .i64 r_1.Cols, .slice B6 r_1.Cells.length c6], .agg #[.int .i64 Rows, .int .i64 Cols, .slice B4 Cells.length c4]]) k_call_75 rfl (mc rfl (mc rfl (mc rfl mn))) (c_spec_l2C_times (Tl2C.mk bad) r_1 (TMatrix.mk Rows Cols Cells) B B6 c6 r_1.Cells.length B4 c4 Cells.length _ rfl rfl (hS15.inn [true, false, false, false, false, false, false] rfl [(false, 5), (false, 2)] rfl) hc1)) ?_ ?_
              · rintro _ w_9 ⟨B7, c7, rfl, hd3⟩
                have hS16 := hS15.out [true, false, false, false, false, false, false] rfl hd3
                have hS16 : ST w0 (bl [⟨B, 69, [.bool c.bad], 1⟩, ⟨B2, 116, (m.Cells.flatMap enc_Dyadic), c2 * 5⟩]) _ [⟨some ⟨b, 0, none⟩, 33, [.int .i64 x.Qubits, .slice B1 x.Gates.length c1], 2⟩, ⟨some ⟨b1, 0, none⟩, 28, [.int .i64 Rows, .int .i64 Cols, .slice B4 Cells.length c4], 3⟩, ⟨B4, 116, (Cells.flatMap enc_Dyadic), c4 * 5⟩, ⟨some ⟨b2, 0, none⟩, 28, [.int .i64 0, .int .i64 0, .slice none 0 0], 3⟩, ⟨some ⟨b3, 0, none⟩, 109, [.int .i64 x1.Kind, .int .i64 x1.A, .int .i64 x1.B], 3⟩, ⟨B6, 116, (r_1.Cells.flatMap enc_Dyadic), c6 * 5⟩, ⟨B, 69, [.bool m2.bad], 1⟩, ⟨B7, 116, (r_2.Cells.flatMap enc_Dyadic), c7 * 5⟩] [⟨B1, (x.Gates.flatMap enc_Gate)⟩] := hS16
                refine ⟨(ST.sel hS16 [0, 2, 3, 4] rfl rfl), ?_⟩
                refine ra_all (rs := [7]) (by kernel_rfl) rfl ?_
                refine ra_s0 (i := 7) rfl rfl rfl (Ys_store (i := 1) (s := 3) (B := some ⟨b1, 0, none⟩) (T' := 28) (v := .agg #[.int .i64 r_2.Rows, .int .i64 r_2.Cols, .slice B7 r_2.Cells.length c7]) (vs := [.int .i64 r_2.Rows, .int .i64 r_2.Cols, .slice B7 r_2.Cells.length c7]) (k := 0) (cs' := [.int .i64 r_2.Rows, .int .i64 r_2.Cols, .slice B7 r_2.Cells.length c7]) hS16 k_sz_28_3 rfl (hf.get 5 2 rfl) rfl rfl rfl rfl rfl (Nat.le_of_ble_eq_true rfl) rfl rfl) ?_ ?_
                · rintro _ w_10 ⟨rfl, hS17⟩
                  have hS17 : ST w0 (bl [⟨B, 69, [.bool c.bad], 1⟩, ⟨B2, 116, (m.Cells.flatMap enc_Dyadic), c2 * 5⟩]) _ [⟨some ⟨b, 0, none⟩, 33, [.int .i64 x.Qubits, .slice B1 x.Gates.length c1], 2⟩, ⟨some ⟨b1, 0, none⟩, 28, [.int .i64 r_2.Rows, .int .i64 r_2.Cols, .slice B7 r_2.Cells.length c7], 3⟩, ⟨B4, 116, (Cells.flatMap enc_Dyadic), c4 * 5⟩, ⟨some ⟨b2, 0, none⟩, 28, [.int .i64 0, .int .i64 0, .slice none 0 0], 3⟩, ⟨some ⟨b3, 0, none⟩, 109, [.int .i64 x1.Kind, .int .i64 x1.A, .int .i64 x1.B], 3⟩, ⟨B6, 116, (r_1.Cells.flatMap enc_Dyadic), c6 * 5⟩, ⟨B, 69, [.bool m2.bad], 1⟩, ⟨B7, 116, (r_2.Cells.flatMap enc_Dyadic), c7 * 5⟩] [⟨B1, (x.Gates.flatMap enc_Gate)⟩] := hS17
                  refine ⟨(ST.sel hS17 [0, 2, 3, 4] rfl rfl), ?_⟩
                  refine ra_done (by kernel_rfl) ?_
                  exact ⟨B7, c7, (FF.cons (hf.get 0 0 rfl) (FF.cons (hf.get 4 1 rfl) (FF.cons (hf.get 5 2 rfl) (FF.cons (hf.get 6 3 rfl) (FF.cons (hf.get 10 4 rfl) (FF.cons (hf.get 11 5 rfl) (FF.cons (hf.get 12 6 rfl) FF.nil))))))), (hS17.sel [6, 0, 1, 7, 3] rfl rfl)⟩
                exact allR_nil
              exact allR_nil
            exact allR_nil
          exact allR_nil
        rintro f w ⟨B8, c8, hf2, hS10⟩
        exact ⟨m2.bad, r_2.Rows, r_2.Cols, r_2.Cells, B8, c8, (some_inj hF3), (FF.cons (hf2.get 0 0 rfl) (FF.cons (hf2.get 4 1 rfl) (FF.cons (hf2.get 5 2 rfl) (FF.cons (hf2.get 6 3 rfl) (FF.cons (hf2.get 10 4 rfl) (FF.cons (hf2.get 11 5 rfl) (FF.cons (hf2.get 12 6 rfl) FF.nil))))))), (hS10.sel [0, 1, 2, 3, 4] rfl rfl)⟩
      · skip
        have hF4 := cf' hz1 hb1
        refine cw_skip ?_
        exact ⟨bad, Rows, Cols, Cells, B4, c4, (some_inj hF4), (FF.cons (hf.get 0 0 rfl) (FF.cons (hf.get 4 1 rfl) (FF.cons (hf.get 5 2 rfl) (FF.cons (hf.get 6 3 rfl) (FF.cons (hf.get 10 4 rfl) (FF.cons (hf.get 11 5 rfl) (FF.cons (hf.get 12 6 rfl) FF.nil))))))), (hS7.sel [0, 1, 2, 3, 4] rfl rfl)⟩
    rintro f w ⟨bad1, Rows1, Cols1, Cells1, B5, c5, rfl, hf1, hS5⟩
    refine cw_region ?_
    refine sq 28 rfl rfl (Y_add (k := .i64) (a := (i : Int)) (b := 1) rfl (hf1.get 12 6 rfl) rfl) ?_
    refine sq 12 rfl rfl (Y_move (v := .int .i64 (IntKind.i64.wrap ((i : Int) + 1))) rfl rfl) ?_
    refine rw_nil ?_
    obtain rfl := some_inj hF2
    exact ⟨k_1, Nat.lt_succ_self _, i + 1, bad1, Rows1, Cols1, Cells1, B5, c5, (FF.cons (hf1.get 0 0 rfl) (FF.cons (hf1.get 4 1 rfl) (FF.cons (hf1.get 5 2 rfl) (FF.cons (hf1.get 6 3 rfl) (FF.cons (hf1.get 10 4 rfl) (FF.cons (hf1.get 11 5 rfl) (FF.cons (congrArg (Value.int .i64) (wr_succ hlt1 hN)) FF.nil))))))), (hS5.sel [0, 1, 2, 3, 4] rfl rfl), (by omega), hL1⟩
  · skip
    obtain rfl : k_ = 0 := by have h := of_decide_eq_false hlt; omega
    refine cw_exit rfl ?_
    obtain rfl := some_inj hL
    refine cw_seq ?_
    refine cw_region ?_
    refine sq 29 rfl rfl (Y_loadA (B := some ⟨b1, 0, none⟩) (i := 0) (cs := [.int .i64 Rows, .int .i64 Cols, .slice B4 Cells.length c4]) (vs := [.int .i64 Rows, .int .i64 Cols, .slice B4 Cells.length c4]) k_ag_28 k_sz_28_3 rfl (hf.get 5 2 rfl) (hS4.cf (i := 2) rfl) rfl rfl) ?_
    refine ss0 rfl rfl (Ys_store (i := 4) (s := 3) (B := some ⟨b2, 0, none⟩) (T' := 28) (v := .agg #[.int .i64 Rows, .int .i64 Cols, .slice B4 Cells.length c4]) (vs := [.int .i64 Rows, .int .i64 Cols, .slice B4 Cells.length c4]) (k := 0) (cs' := [.int .i64 Rows, .int .i64 Cols, .slice B4 Cells.length c4]) hS4 k_sz_28_3 rfl (hf.get 6 3 rfl) rfl rfl rfl rfl rfl (Nat.le_of_ble_eq_true rfl) rfl rfl) ?_
    rintro _ w_11 ⟨rfl, hS18⟩
    have hS18 : ST w0 (bl [⟨B, 69, [.bool c.bad], 1⟩, ⟨B2, 116, (m.Cells.flatMap enc_Dyadic), c2 * 5⟩]) _ [⟨B, 69, [.bool bad], 1⟩, ⟨some ⟨b, 0, none⟩, 33, [.int .i64 x.Qubits, .slice B1 x.Gates.length c1], 2⟩, ⟨some ⟨b1, 0, none⟩, 28, [.int .i64 Rows, .int .i64 Cols, .slice B4 Cells.length c4], 3⟩, ⟨B4, 116, (Cells.flatMap enc_Dyadic), c4 * 5⟩, ⟨some ⟨b2, 0, none⟩, 28, [.int .i64 Rows, .int .i64 Cols, .slice B4 Cells.length c4], 3⟩] [⟨B1, (x.Gates.flatMap enc_Gate)⟩] := hS18
    refine rw_nil ?_
    refine cw_ret ?_
    obtain ⟨rfl, rfl⟩ := pr2 (some_inj hF1)
    exact ret1 Try.results31 (v1 := .agg #[.int .i64 Rows, .int .i64 Cols, .slice B4 Cells.length c4]) (resAt_cellA (B := some ⟨b2, 0, none⟩) (i := 0) (cs := [.int .i64 Rows, .int .i64 Cols, .slice B4 Cells.length c4]) (vs := [.int .i64 Rows, .int .i64 Cols, .slice B4 Cells.length c4]) (hf.get 6 3 rfl) k_ag_28 k_sz_28_3 (hS18.cf (i := 4) rfl) rfl rfl) ⟨B4, c4, rfl, (ST.subR (R' := []) (hS18.sel [0, 3] rfl rfl) (fun _ h => by cases h))⟩

theorem c_spec_l3Column (m : TMatrix) (k_ : Int) (B : Option Addr) (c n : Nat) (w0 : World) (hn : m.Cells.length = n) (hS : ST w0 [] w0 [] [⟨B, (m.Cells.flatMap enc_Dyadic)⟩]) {r_ : TMatrix} (hF : F_spec_l3Column m k_ = some r_) :
    CV Try.prog 32 #[.agg #[.int .i64 m.Rows, .int .i64 m.Cols, .slice B n c], .int .i64 k_] w0 (fun v w' => ∃ (B1 : Option Addr) (c1 : Nat), v = .agg #[.int .i64 r_.Rows, .int .i64 r_.Cols, .slice B1 r_.Cells.length c1] ∧ ST w0 [] w' [⟨B1, 116, (r_.Cells.flatMap enc_Dyadic), c1 * 5⟩] []) := by
  subst hn
  unfold F_spec_l3Column at hF
  refine cv_of_cw 32 Try.func32 rfl Try.ntmps32 rfl ?_
  refine cw_seq ?_
  refine cw_region ?_
  refine ss 2 rfl rfl (Ys_box (T := 28) (v := .agg #[.int .i64 m.Rows, .int .i64 m.Cols, .slice B m.Cells.length c]) (cs := [.int .i64 m.Rows, .int .i64 m.Cols, .slice B m.Cells.length c]) (m := 3) hS rfl rfl rfl rfl) ?_
  rintro _ w_ ⟨b, rfl, hS1⟩
  refine ss 4 rfl rfl (Ys_alloc (T := 28) (cs := [.int .i64 0, .int .i64 0, .slice none 0 0]) (m := 3) hS1 k_zero_28 rfl rfl rfl) ?_
  rintro _ w_1 ⟨b1, rfl, hS2⟩
  have hS2 : ST w0 [] _ [⟨some ⟨b, 0, none⟩, 28, [.int .i64 m.Rows, .int .i64 m.Cols, .slice B m.Cells.length c], 3⟩, ⟨some ⟨b1, 0, none⟩, 28, [.int .i64 0, .int .i64 0, .slice none 0 0], 3⟩] [⟨B, (m.Cells.flatMap enc_Dyadic)⟩] := hS2
  refine rw_nil ?_
  refine cw_seq ?_
  refine cw_region ?_
  refine sq 7 rfl rfl (Y_fieldAddr (B := some ⟨b, 0, none⟩) (i := 0) (s := 0) k_fd_28_0_0_3 k_sz_3_1 rfl rfl) ?_
  refine sq 8 rfl rfl (Y_load1 (B := some ⟨b, 0, none⟩) (i := 0) (cs := [.int .i64 m.Rows, .int .i64 m.Cols, .slice B m.Cells.length c]) (v := .int .i64 m.Rows) k_sc_3 rfl rfl (hS2.cf (i := 0) rfl) rfl) ?_
  refine sq 9 rfl rfl (Y_buildS (zs := [.int .i64 0, .int .i64 0, .slice none 0 0]) (vs := [(0, .int .i64 m.Rows), (1, .int .i64 1)]) (cs := [.int .i64 m.Rows, .int .i64 1, .slice none 0 0]) k_pl_28 k_zero_28 rfl (mpc rfl (mpc rfl mpn)) rfl) ?_
  refine ss 5 rfl rfl (Ys_alloc (T := 28) (cs := [.int .i64 0, .int .i64 0, .slice none 0 0]) (m := 3) hS2 k_zero_28 rfl rfl rfl) ?_
  rintro _ w_2 ⟨b2, rfl, hS3⟩
  have hS3 : ST w0 [] _ [⟨some ⟨b, 0, none⟩, 28, [.int .i64 m.Rows, .int .i64 m.Cols, .slice B m.Cells.length c], 3⟩, ⟨some ⟨b1, 0, none⟩, 28, [.int .i64 0, .int .i64 0, .slice none 0 0], 3⟩, ⟨some ⟨b2, 0, none⟩, 28, [.int .i64 0, .int .i64 0, .slice none 0 0], 3⟩] [⟨B, (m.Cells.flatMap enc_Dyadic)⟩] := hS3
  refine ss0 rfl rfl (Ys_store (i := 2) (s := 3) (B := some ⟨b2, 0, none⟩) (T' := 28) (v := .agg #[.int .i64 m.Rows, .int .i64 1, .slice none 0 0]) (vs := [.int .i64 m.Rows, .int .i64 1, .slice none 0 0]) (k := 0) (cs' := [.int .i64 m.Rows, .int .i64 1, .slice none 0 0]) hS3 k_sz_28_3 rfl rfl rfl rfl rfl rfl rfl (Nat.le_of_ble_eq_true rfl) rfl rfl) ?_
  rintro _ w_3 ⟨rfl, hS4⟩
  have hS4 : ST w0 [] _ [⟨some ⟨b, 0, none⟩, 28, [.int .i64 m.Rows, .int .i64 m.Cols, .slice B m.Cells.length c], 3⟩, ⟨some ⟨b1, 0, none⟩, 28, [.int .i64 0, .int .i64 0, .slice none 0 0], 3⟩, ⟨some ⟨b2, 0, none⟩, 28, [.int .i64 m.Rows, .int .i64 1, .slice none 0 0], 3⟩] [⟨B, (m.Cells.flatMap enc_Dyadic)⟩] := hS4
  refine rw_nil ?_
  refine cw_seq ?_
  refine cw_seq ?_
  refine cw_region ?_
  refine sq 6 rfl rfl (Y_assign (v := .int .i64 0) rfl rfl) ?_
  refine rw_nil ?_
  obtain ⟨hN, hF⟩ := chk_inv hF
  obtain ⟨z, hz, hF1⟩ := bind_inv hF
  have hS6 := hS4.addNil 116
  refine cw_block ?_
  refine cw_loop (fun k f w => ∃ (i1 : Nat) (Cells : List TDyadic) (B2 : Option Addr) (c2 : Nat), FF f [(1, .int .i64 k_), (2, pt (some ⟨b, 0, none⟩) 0), (4, pt (some ⟨b1, 0, none⟩) 0), (5, pt (some ⟨b2, 0, none⟩) 0), (6, .int .i64 (i1 : Int))] ∧ ST w0 [] w [⟨some ⟨b, 0, none⟩, 28, [.int .i64 m.Rows, .int .i64 m.Cols, .slice B m.Cells.length c], 3⟩, ⟨some ⟨b1, 0, none⟩, 28, [.int .i64 0, .int .i64 0, .slice none 0 0], 3⟩, ⟨some ⟨b2, 0, none⟩, 28, [.int .i64 m.Rows, .int .i64 1, .slice B2 Cells.length c2], 3⟩, ⟨B2, 116, (Cells.flatMap enc_Dyadic), c2 * 5⟩] [⟨B, (m.Cells.flatMap enc_Dyadic)⟩] ∧ i1 + k = m.Rows.toNat ∧ forN (F_spec_l3Column_l1 m k_) k i1 Cells = some z) m.Rows.toNat ⟨0, [], none, 0, (FF.cons rfl (FF.cons rfl (FF.cons rfl (FF.cons rfl (FF.cons rfl FF.nil))))), (hS6.sel [0, 1, 2, 3] rfl rfl), Nat.zero_add _, hz⟩ ?_
  rintro k_1 f w ⟨i1, Cells, B2, c2, hf, hS5, hik, hL⟩
  refine cw_seq ?_
  refine cw_seq ?_
  refine cw_region ?_
  refine sq 10 rfl rfl (Y_move (v := .int .i64 (i1 : Int)) rfl (hf.get 6 4 rfl)) ?_
  refine sq 11 rfl rfl (Y_fieldAddr (B := some ⟨b, 0, none⟩) (i := 0) (s := 0) k_fd_28_0_0_3 k_sz_3_1 rfl (hf.get 2 1 rfl)) ?_
  refine sq 12 rfl rfl (Y_load1 (B := some ⟨b, 0, none⟩) (i := 0) (cs := [.int .i64 m.Rows, .int .i64 m.Cols, .slice B m.Cells.length c]) (v := .int .i64 m.Rows) k_sc_3 rfl rfl (hS5.cf (i := 0) rfl) rfl) ?_
  refine sq 13 rfl rfl (Y_lt (k := .i64) (a := (i1 : Int)) (b := m.Rows) rfl rfl rfl) ?_
  refine rw_nil ?_
  refine cw_cond (b := (decide ((i1 : Int) < m.Rows))) rfl (fun hlt => ?_) (fun hlt => ?_)
  · skip
    have hlt1 : i1 < m.Rows.toNat := by have h := of_decide_eq_true hlt; omega
    obtain ⟨k_2, rfl⟩ : ∃ k2, k_1 = k2 + 1 := ⟨k_1 - 1, by omega⟩
    obtain ⟨y, hb, hL1⟩ := forN_go hL
    unfold F_spec_l3Column_l1 at hb
    refine cw_skip ?_
    refine cw_seq ?_
    refine cw_block ?_
    obtain ⟨x, hx, hb⟩ := bind_inv hb
    obtain ⟨hap, hb⟩ := chk_inv hb
    refine cw_mid (fun f w => ∃ (B4 : Option Addr) (c4 : Nat), FF f [(1, .int .i64 k_), (2, pt (some ⟨b, 0, none⟩) 0), (4, pt (some ⟨b1, 0, none⟩) 0), (5, pt (some ⟨b2, 0, none⟩) 0), (6, .int .i64 (i1 : Int))] ∧ ST w0 [] w [⟨some ⟨b, 0, none⟩, 28, [.int .i64 m.Rows, .int .i64 m.Cols, .slice B m.Cells.length c], 3⟩, ⟨some ⟨b1, 0, none⟩, 28, [.int .i64 0, .int .i64 0, .slice none 0 0], 3⟩, ⟨some ⟨b2, 0, none⟩, 28, [.int .i64 m.Rows, .int .i64 1, .slice B4 ((Cells ++ [x]).length) c4], 3⟩, ⟨B4, 116, ((Cells ++ [x]).flatMap enc_Dyadic), c4 * 5⟩] [⟨B, (m.Cells.flatMap enc_Dyadic)⟩]) ?_ ?_
    · skip
      refine ra_start (ST.sel hS5 [0, 1] rfl rfl).fn (by kernel_rfl) ?_
      have hS8 := hS5.drew
      refine ra_q 0 16 (v := pt (some ⟨b2, 0, none⟩) 2) rfl rfl rfl (by kernel_rfl) (by kernel_rfl) (by kernel_rfl) (ST.sel hS8 [0, 1] rfl rfl) (fun w' hw' => (Y_fieldAddr (B := some ⟨b2, 0, none⟩) (i := 0) (s := 0) k_fd_28_2_2_26 k_sz_26_1 rfl (hf.get 5 3 rfl))) ?_
      refine ra_q 2 18 (v := pt (some ⟨b, 0, none⟩) 2) rfl rfl rfl (by kernel_rfl) (by kernel_rfl) (by kernel_rfl) (ST.sel hS8 [0, 1] rfl rfl) (fun w' hw' => (Y_fieldAddr (B := some ⟨b, 0, none⟩) (i := 0) (s := 0) k_fd_28_2_2_26 k_sz_26_1 rfl (hf.get 2 1 rfl))) ?_
      refine ra_q 3 19 (v := .slice B m.Cells.length c) rfl rfl rfl (by kernel_rfl) (by kernel_rfl) (by kernel_rfl) (ST.sel hS8 [0, 1] rfl rfl) (fun w' hw' => (Y_load1 (B := some ⟨b, 0, none⟩) (i := 2) (cs := [.int .i64 m.Rows, .int .i64 m.Cols, .slice B m.Cells.length c]) (v := .slice B m.Cells.length c) k_sc_26 rfl rfl (ST.cf hw' (i := 0) rfl) rfl)) ?_
      refine ra_q 4 20 (v := .int .i64 (i1 : Int)) rfl rfl rfl (by kernel_rfl) (by kernel_rfl) (by kernel_rfl) (ST.sel hS8 [0, 1] rfl rfl) (fun w' hw' => (Y_move (v := .int .i64 (i1 : Int)) rfl (hf.get 6 4 rfl))) ?_
      refine ra_q 5 21 (v := pt (some ⟨b, 0, none⟩) 1) rfl rfl rfl (by kernel_rfl) (by kernel_rfl) (by kernel_rfl) (ST.sel hS8 [0, 1] rfl rfl) (fun w' hw' => (Y_fieldAddr (B := some ⟨b, 0, none⟩) (i := 0) (s := 0) k_fd_28_1_1_3 k_sz_3_1 rfl (hf.get 2 1 rfl))) ?_
      refine ra_q 6 22 (v := .int .i64 m.Cols) rfl rfl rfl (by kernel_rfl) (by kernel_rfl) (by kernel_rfl) (ST.sel hS8 [0, 1] rfl rfl) (fun w' hw' => (Y_load1 (B := some ⟨b, 0, none⟩) (i := 1) (cs := [.int .i64 m.Rows, .int .i64 m.Cols, .slice B m.Cells.length c]) (v := .int .i64 m.Cols) k_sc_3 rfl rfl (ST.cf hw' (i := 0) rfl) rfl)) ?_
      refine ra_q 7 23 (v := .int .i64 (IntKind.i64.wrap ((i1 : Int) * m.Cols))) rfl rfl rfl (by kernel_rfl) (by kernel_rfl) (by kernel_rfl) (ST.sel hS8 [0, 1] rfl rfl) (fun w' hw' => (Y_mul (k := .i64) (a := (i1 : Int)) (b := m.Cols) rfl rfl rfl)) ?_
      refine ra_q 8 24 (v := .int .i64 k_) rfl rfl rfl (by kernel_rfl) (by kernel_rfl) (by kernel_rfl) (ST.sel hS8 [0, 1] rfl rfl) (fun w' hw' => (Y_move (v := .int .i64 k_) rfl (hf.get 1 0 rfl))) ?_
      refine ra_q 9 25 (v := .int .i64 (IntKind.i64.wrap ((IntKind.i64.wrap ((i1 : Int) * m.Cols)) + k_))) rfl rfl rfl (by kernel_rfl) (by kernel_rfl) (by kernel_rfl) (ST.sel hS8 [0, 1] rfl rfl) (fun w' hw' => (Y_add (k := .i64) (a := (IntKind.i64.wrap ((i1 : Int) * m.Cols))) (b := k_) rfl rfl rfl)) ?_
      refine ra_q 10 26 (v := pt B ((IntKind.i64.wrap ((IntKind.i64.wrap ((i1 : Int) * m.Cols)) + k_)).toNat * 5)) rfl rfl rfl (by kernel_rfl) (by kernel_rfl) (by kernel_rfl) (ST.sel hS8 [0, 1] rfl rfl) (fun w' hw' => (Y_index (B := B) (m := m.Cells.length) (c := c) (k := .i64) (i := (IntKind.i64.wrap ((IntKind.i64.wrap ((i1 : Int) * m.Cols)) + k_))) k_sl_26_116 k_sz_116_5 rfl rfl rfl (gi_isSome enc_Dyadic_len rfl (ST.rf hw' (i := 0) rfl) hx) (getI_nn hx) (getI_ltI hx rfl))) ?_
      refine ra_q 11 27 (v := .agg #[.int .i64 x.Num.A, .int .i64 x.Num.B, .int .i64 x.Num.C, .int .i64 x.Num.D, .int .i64 x.Exp]) rfl rfl rfl (by kernel_rfl) (by kernel_rfl) (by kernel_rfl) (ST.sel hS8 [0, 1] rfl rfl) (fun w' hw' => (Y_loadA (B := B) (i := (IntKind.i64.wrap ((IntKind.i64.wrap ((i1 : Int) * m.Cols)) + k_)).toNat * 5) (cs := (m.Cells.flatMap enc_Dyadic)) (vs := [.int .i64 x.Num.A, .int .i64 x.Num.B, .int .i64 x.Num.C, .int .i64 x.Num.D, .int .i64 x.Exp]) k_ag_116 k_sz_116_5 rfl rfl (ST.rf hw' (i := 0) rfl) (enc_Dyadic_len x) (gi_seg enc_Dyadic_len hx))) ?_
      refine ra_all (rs := [1, 12]) (by kernel_rfl) rfl ?_
      refine ra_y 17 (i := 1) (v := .slice B2 Cells.length c2) rfl rfl rfl (Y_load1 (B := some ⟨b2, 0, none⟩) (i := 2) (cs := [.int .i64 m.Rows, .int .i64 1, .slice B2 Cells.length c2]) (v := .slice B2 Cells.length c2) k_sc_26 rfl rfl (hS8.cf (i := 2) rfl) rfl) (ST.sel hS8 [0, 1] rfl rfl) ?_ ?_
      · skip
        refine ra_all (rs := [12]) (by kernel_rfl) rfl ?_
        refine ra_s 28 (i := 12) rfl rfl rfl (Ys_bslice (s := 5) (len := 1) (vs := [(0, .agg #[.int .i64 x.Num.A, .int .i64 x.Num.B, .int .i64 x.Num.C, .int .i64 x.Num.D, .int .i64 x.Exp])]) (cs := [.int .i64 x.Num.A, .int .i64 x.Num.B, .int .i64 x.Num.C, .int .i64 x.Num.D, .int .i64 x.Exp]) (zs := [.int .i64 0, .int .i64 0, .int .i64 0, .int .i64 0, .int .i64 0]) (m := 5) hS8 k_sl_26_116 k_sz_116_5 k_zc_116 rfl (mpc rfl mpn) rfl rfl rfl (by kernel_rfl) (by kernel_rfl) rfl) ?_ ?_
        · rintro _ w_4 ⟨b3, rfl, hS9⟩
          have hS9 : ST w0 [] _ [⟨some ⟨b, 0, none⟩, 28, [.int .i64 m.Rows, .int .i64 m.Cols, .slice B m.Cells.length c], 3⟩, ⟨some ⟨b1, 0, none⟩, 28, [.int .i64 0, .int .i64 0, .slice none 0 0], 3⟩, ⟨some ⟨b2, 0, none⟩, 28, [.int .i64 m.Rows, .int .i64 1, .slice B2 Cells.length c2], 3⟩, ⟨B2, 116, (Cells.flatMap enc_Dyadic), c2 * 5⟩, ⟨some ⟨b3, 0, none⟩, 116, ([x].flatMap enc_Dyadic), 1 * 5⟩] [⟨B, (m.Cells.flatMap enc_Dyadic)⟩] := hS9
          refine ⟨(ST.sel hS9 [0, 1] rfl rfl), ?_⟩
          refine ra_all (rs := [13]) (by kernel_rfl) rfl ?_
          refine ra_s 29 (i := 13) rfl rfl rfl (Ys_append (s := 5) (by' := 40) (i := 3) (nn := Cells.length) (c := c2) (k := 1) (len := (Cells ++ [x]).length) (B := B2) (xs := ([x].flatMap enc_Dyadic)) (cs' := ((Cells ++ [x]).flatMap enc_Dyadic)) hS9 k_sl_26_116 k_sz_116_5 k_by_116_40 k_zero_116 rfl (by decide) rfl rfl rfl rfl (fm_lenn (l := Cells) enc_Dyadic_len rfl) rfl (hS9.cf (i := 4) rfl) (fm_lenn (l := [x]) enc_Dyadic_len rfl) (fm_one' (enc := enc_Dyadic) enc_Dyadic_one [x]) (by have := hap; omega) (by have := hap; simp only [maxLen]; omega) (fm_app _ _) (app_len (l := Cells) (l' := [x]) rfl rfl)) ?_ ?_
          · rintro _ w_5 ⟨B3, c3, rfl, hS10⟩
            have hS10 : ST w0 [] _ [⟨some ⟨b, 0, none⟩, 28, [.int .i64 m.Rows, .int .i64 m.Cols, .slice B m.Cells.length c], 3⟩, ⟨some ⟨b1, 0, none⟩, 28, [.int .i64 0, .int .i64 0, .slice none 0 0], 3⟩, ⟨some ⟨b2, 0, none⟩, 28, [.int .i64 m.Rows, .int .i64 1, .slice B2 Cells.length c2], 3⟩, ⟨B3, 116, ((Cells ++ [x]).flatMap enc_Dyadic), c3 * 5⟩, ⟨some ⟨b3, 0, none⟩, 116, ([x].flatMap enc_Dyadic), 1 * 5⟩] [⟨B, (m.Cells.flatMap enc_Dyadic)⟩] := hS10
            refine ⟨(ST.sel hS10 [0, 1] rfl rfl), ?_⟩
            refine ra_q 14 30 (v := pt (some ⟨b2, 0, none⟩) 2) rfl rfl rfl (by kernel_rfl) (by kernel_rfl) (by kernel_rfl) (ST.sel hS10 [0, 1] rfl rfl) (fun w' hw' => (Y_fieldAddr (B := some ⟨b2, 0, none⟩) (i := 0) (s := 0) k_fd_28_2_2_26 k_sz_26_1 rfl (hf.get 5 3 rfl))) ?_
            refine ra_all (rs := [15]) (by kernel_rfl) rfl ?_
            refine ra_s0 (i := 15) rfl rfl rfl (Ys_store (i := 2) (s := 1) (B := some ⟨b2, 0, none⟩) (T' := 28) (v := .slice B3 ((Cells ++ [x]).length) c3) (vs := [.slice B3 ((Cells ++ [x]).length) c3]) (k := 2) (cs' := [.int .i64 m.Rows, .int .i64 1, .slice B3 ((Cells ++ [x]).length) c3]) hS10 k_sz_26_1 rfl rfl rfl rfl rfl rfl rfl (Nat.le_of_ble_eq_true rfl) rfl rfl) ?_ ?_
            · rintro _ w_6 ⟨rfl, hS11⟩
              have hS11 : ST w0 [] _ [⟨some ⟨b, 0, none⟩, 28, [.int .i64 m.Rows, .int .i64 m.Cols, .slice B m.Cells.length c], 3⟩, ⟨some ⟨b1, 0, none⟩, 28, [.int .i64 0, .int .i64 0, .slice none 0 0], 3⟩, ⟨some ⟨b2, 0, none⟩, 28, [.int .i64 m.Rows, .int .i64 1, .slice B3 ((Cells ++ [x]).length) c3], 3⟩, ⟨B3, 116, ((Cells ++ [x]).flatMap enc_Dyadic), c3 * 5⟩, ⟨some ⟨b3, 0, none⟩, 116, ([x].flatMap enc_Dyadic), 1 * 5⟩] [⟨B, (m.Cells.flatMap enc_Dyadic)⟩] := hS11
              refine ⟨(ST.sel hS11 [0, 1] rfl rfl), ?_⟩
              refine ra_done (by kernel_rfl) ?_
              exact ⟨B3, c3, (FF.cons (hf.get 1 0 rfl) (FF.cons (hf.get 2 1 rfl) (FF.cons (hf.get 4 2 rfl) (FF.cons (hf.get 5 3 rfl) (FF.cons (hf.get 6 4 rfl) FF.nil))))), (hS11.sel [0, 1, 2, 3] rfl rfl)⟩
            exact allR_nil
          exact allR_nil
        exact allR_nil
      refine ra_s 28 (i := 12) rfl rfl rfl (Ys_bslice (s := 5) (len := 1) (vs := [(0, .agg #[.int .i64 x.Num.A, .int .i64 x.Num.B, .int .i64 x.Num.C, .int .i64 x.Num.D, .int .i64 x.Exp])]) (cs := [.int .i64 x.Num.A, .int .i64 x.Num.B, .int .i64 x.Num.C, .int .i64 x.Num.D, .int .i64 x.Exp]) (zs := [.int .i64 0, .int .i64 0, .int .i64 0, .int .i64 0, .int .i64 0]) (m := 5) hS8 k_sl_26_116 k_sz_116_5 k_zc_116 rfl (mpc rfl mpn) rfl rfl rfl (by kernel_rfl) (by kernel_rfl) rfl) ?_ ?_
      · rintro _ w_7 ⟨b3, rfl, hS12⟩
        have hS12 : ST w0 [] _ [⟨some ⟨b, 0, none⟩, 28, [.int .i64 m.Rows, .int .i64 m.Cols, .slice B m.Cells.length c], 3⟩, ⟨some ⟨b1, 0, none⟩, 28, [.int .i64 0, .int .i64 0, .slice none 0 0], 3⟩, ⟨some ⟨b2, 0, none⟩, 28, [.int .i64 m.Rows, .int .i64 1, .slice B2 Cells.length c2], 3⟩, ⟨B2, 116, (Cells.flatMap enc_Dyadic), c2 * 5⟩, ⟨some ⟨b3, 0, none⟩, 116, ([x].flatMap enc_Dyadic), 1 * 5⟩] [⟨B, (m.Cells.flatMap enc_Dyadic)⟩] := hS12
        refine ⟨(ST.sel hS12 [0, 1] rfl rfl), ?_⟩
        refine ra_all (rs := [1]) (by kernel_rfl) rfl ?_
        refine ra_y 17 (i := 1) (v := .slice B2 Cells.length c2) rfl rfl rfl (Y_load1 (B := some ⟨b2, 0, none⟩) (i := 2) (cs := [.int .i64 m.Rows, .int .i64 1, .slice B2 Cells.length c2]) (v := .slice B2 Cells.length c2) k_sc_26 rfl rfl (hS12.cf (i := 2) rfl) rfl) (ST.sel hS12 [0, 1] rfl rfl) ?_ ?_
        · skip
          refine ra_all (rs := [13]) (by kernel_rfl) rfl ?_
          refine ra_s 29 (i := 13) rfl rfl rfl (Ys_append (s := 5) (by' := 40) (i := 3) (nn := Cells.length) (c := c2) (k := 1) (len := (Cells ++ [x]).length) (B := B2) (xs := ([x].flatMap enc_Dyadic)) (cs' := ((Cells ++ [x]).flatMap enc_Dyadic)) hS12 k_sl_26_116 k_sz_116_5 k_by_116_40 k_zero_116 rfl (by decide) rfl rfl rfl rfl (fm_lenn (l := Cells) enc_Dyadic_len rfl) rfl (hS12.cf (i := 4) rfl) (fm_lenn (l := [x]) enc_Dyadic_len rfl) (fm_one' (enc := enc_Dyadic) enc_Dyadic_one [x]) (by have := hap; omega) (by have := hap; simp only [maxLen]; omega) (fm_app _ _) (app_len (l := Cells) (l' := [x]) rfl rfl)) ?_ ?_
          · rintro _ w_8 ⟨B3, c3, rfl, hS13⟩
            have hS13 : ST w0 [] _ [⟨some ⟨b, 0, none⟩, 28, [.int .i64 m.Rows, .int .i64 m.Cols, .slice B m.Cells.length c], 3⟩, ⟨some ⟨b1, 0, none⟩, 28, [.int .i64 0, .int .i64 0, .slice none 0 0], 3⟩, ⟨some ⟨b2, 0, none⟩, 28, [.int .i64 m.Rows, .int .i64 1, .slice B2 Cells.length c2], 3⟩, ⟨B3, 116, ((Cells ++ [x]).flatMap enc_Dyadic), c3 * 5⟩, ⟨some ⟨b3, 0, none⟩, 116, ([x].flatMap enc_Dyadic), 1 * 5⟩] [⟨B, (m.Cells.flatMap enc_Dyadic)⟩] := hS13
            refine ⟨(ST.sel hS13 [0, 1] rfl rfl), ?_⟩
            refine ra_q 14 30 (v := pt (some ⟨b2, 0, none⟩) 2) rfl rfl rfl (by kernel_rfl) (by kernel_rfl) (by kernel_rfl) (ST.sel hS13 [0, 1] rfl rfl) (fun w' hw' => (Y_fieldAddr (B := some ⟨b2, 0, none⟩) (i := 0) (s := 0) k_fd_28_2_2_26 k_sz_26_1 rfl (hf.get 5 3 rfl))) ?_
            refine ra_all (rs := [15]) (by kernel_rfl) rfl ?_
            refine ra_s0 (i := 15) rfl rfl rfl (Ys_store (i := 2) (s := 1) (B := some ⟨b2, 0, none⟩) (T' := 28) (v := .slice B3 ((Cells ++ [x]).length) c3) (vs := [.slice B3 ((Cells ++ [x]).length) c3]) (k := 2) (cs' := [.int .i64 m.Rows, .int .i64 1, .slice B3 ((Cells ++ [x]).length) c3]) hS13 k_sz_26_1 rfl rfl rfl rfl rfl rfl rfl (Nat.le_of_ble_eq_true rfl) rfl rfl) ?_ ?_
            · rintro _ w_9 ⟨rfl, hS14⟩
              have hS14 : ST w0 [] _ [⟨some ⟨b, 0, none⟩, 28, [.int .i64 m.Rows, .int .i64 m.Cols, .slice B m.Cells.length c], 3⟩, ⟨some ⟨b1, 0, none⟩, 28, [.int .i64 0, .int .i64 0, .slice none 0 0], 3⟩, ⟨some ⟨b2, 0, none⟩, 28, [.int .i64 m.Rows, .int .i64 1, .slice B3 ((Cells ++ [x]).length) c3], 3⟩, ⟨B3, 116, ((Cells ++ [x]).flatMap enc_Dyadic), c3 * 5⟩, ⟨some ⟨b3, 0, none⟩, 116, ([x].flatMap enc_Dyadic), 1 * 5⟩] [⟨B, (m.Cells.flatMap enc_Dyadic)⟩] := hS14
              refine ⟨(ST.sel hS14 [0, 1] rfl rfl), ?_⟩
              refine ra_done (by kernel_rfl) ?_
              exact ⟨B3, c3, (FF.cons (hf.get 1 0 rfl) (FF.cons (hf.get 2 1 rfl) (FF.cons (hf.get 4 2 rfl) (FF.cons (hf.get 5 3 rfl) (FF.cons (hf.get 6 4 rfl) FF.nil))))), (hS14.sel [0, 1, 2, 3] rfl rfl)⟩
            exact allR_nil
          exact allR_nil
        exact allR_nil
      exact allR_nil
    rintro f w ⟨B4, c4, hf1, hS7⟩
    refine cw_region ?_
    refine sq 14 rfl rfl (Y_move (v := .int .i64 (i1 : Int)) rfl (hf1.get 6 4 rfl)) ?_
    refine sq 15 rfl rfl (Y_add (k := .i64) (a := (i1 : Int)) (b := 1) rfl rfl rfl) ?_
    refine sq 6 rfl rfl (Y_assign (v := .int .i64 (IntKind.i64.wrap ((i1 : Int) + 1))) rfl rfl) ?_
    refine rw_nil ?_
    obtain rfl := some_inj hb
    exact ⟨k_2, Nat.lt_succ_self _, i1 + 1, (Cells ++ [x]), B4, c4, (FF.cons (hf1.get 1 0 rfl) (FF.cons (hf1.get 2 1 rfl) (FF.cons (hf1.get 4 2 rfl) (FF.cons (hf1.get 5 3 rfl) (FF.cons (congrArg (Value.int .i64) (wr_succ hlt1 hN)) FF.nil))))), (hS7.sel [0, 1, 2, 3] rfl rfl), (by omega), hL1⟩
  · skip
    obtain rfl : k_1 = 0 := by have h := of_decide_eq_false hlt; omega
    refine cw_exit rfl ?_
    obtain rfl := some_inj hL
    refine cw_seq ?_
    refine cw_region ?_
    refine sq 31 rfl rfl (Y_loadA (B := some ⟨b2, 0, none⟩) (i := 0) (cs := [.int .i64 m.Rows, .int .i64 1, .slice B2 Cells.length c2]) (vs := [.int .i64 m.Rows, .int .i64 1, .slice B2 Cells.length c2]) k_ag_28 k_sz_28_3 rfl (hf.get 5 3 rfl) (hS5.cf (i := 2) rfl) rfl rfl) ?_
    refine ss0 rfl rfl (Ys_store (i := 1) (s := 3) (B := some ⟨b1, 0, none⟩) (T' := 28) (v := .agg #[.int .i64 m.Rows, .int .i64 1, .slice B2 Cells.length c2]) (vs := [.int .i64 m.Rows, .int .i64 1, .slice B2 Cells.length c2]) (k := 0) (cs' := [.int .i64 m.Rows, .int .i64 1, .slice B2 Cells.length c2]) hS5 k_sz_28_3 rfl (hf.get 4 2 rfl) rfl rfl rfl rfl rfl (Nat.le_of_ble_eq_true rfl) rfl rfl) ?_
    rintro _ w_10 ⟨rfl, hS15⟩
    have hS15 : ST w0 [] _ [⟨some ⟨b, 0, none⟩, 28, [.int .i64 m.Rows, .int .i64 m.Cols, .slice B m.Cells.length c], 3⟩, ⟨some ⟨b1, 0, none⟩, 28, [.int .i64 m.Rows, .int .i64 1, .slice B2 Cells.length c2], 3⟩, ⟨some ⟨b2, 0, none⟩, 28, [.int .i64 m.Rows, .int .i64 1, .slice B2 Cells.length c2], 3⟩, ⟨B2, 116, (Cells.flatMap enc_Dyadic), c2 * 5⟩] [⟨B, (m.Cells.flatMap enc_Dyadic)⟩] := hS15
    refine rw_nil ?_
    refine cw_ret ?_
    obtain rfl := some_inj hF1
    exact ret1 Try.results32 (v1 := .agg #[.int .i64 m.Rows, .int .i64 1, .slice B2 Cells.length c2]) (resAt_cellA (B := some ⟨b1, 0, none⟩) (i := 0) (cs := [.int .i64 m.Rows, .int .i64 1, .slice B2 Cells.length c2]) (vs := [.int .i64 m.Rows, .int .i64 1, .slice B2 Cells.length c2]) (hf.get 4 2 rfl) k_ag_28 k_sz_28_3 (hS15.cf (i := 1) rfl) rfl rfl) ⟨B2, c2, rfl, (ST.subR (R' := []) (hS15.sel [3] rfl rfl) (fun _ h => by cases h))⟩

theorem c_spec_l3Unit (n : Int)  (w0 : World)  (hS : ST w0 [] w0 [] []) {r_ : TMatrix} (hF : F_spec_l3Unit n = some r_) :
    CV Try.prog 33 #[.int .i64 n] w0 (fun v w' => ∃ (B : Option Addr) (c : Nat), v = .agg #[.int .i64 r_.Rows, .int .i64 r_.Cols, .slice B r_.Cells.length c] ∧ ST w0 [] w' [⟨B, 116, (r_.Cells.flatMap enc_Dyadic), c * 5⟩] []) := by
  unfold F_spec_l3Unit at hF
  refine cv_of_cw 27 Try.func33 rfl Try.ntmps33 rfl ?_
  refine cw_seq ?_
  refine cw_region ?_
  refine ss 2 rfl rfl (Ys_alloc (T := 28) (cs := [.int .i64 0, .int .i64 0, .slice none 0 0]) (m := 3) hS k_zero_28 rfl rfl rfl) ?_
  rintro _ w_ ⟨b, rfl, hS1⟩
  refine rw_nil ?_
  refine cw_seq ?_
  refine cw_region ?_
  refine sq 5 rfl rfl (Y_move (v := .int .i64 n) rfl rfl) ?_
  refine sq 6 rfl rfl (Y_move (v := .int .i64 n) rfl rfl) ?_
  refine sq 7 rfl rfl (Y_move (v := .int .i64 n) rfl rfl) ?_
  refine sq 8 rfl rfl (Y_move (v := .int .i64 n) rfl rfl) ?_
  refine sq 9 rfl rfl (Y_mul (k := .i64) (a := n) (b := n) rfl rfl rfl) ?_
  obtain ⟨hmk, hF⟩ := chk_inv hF
  refine ss 10 rfl rfl (Ys_make (s := 5) (by' := 40) (nn := (IntKind.i64.wrap (n * n)).toNat) (a := (IntKind.i64.wrap (n * n))) (b := (IntKind.i64.wrap (n * n))) (cs := ((List.replicate ((IntKind.i64.wrap (n * n)).toNat) (TDyadic.mk (TRing.mk 0 0 0 0) 0)).flatMap enc_Dyadic)) hS1 k_sl_26_116 k_sz_116_5 k_by_116_40 k_zero_116 rfl rfl rfl rfl hmk.1 rfl (by have := hmk; omega) (by have := hmk; omega) (by omega) (fm_rep (enc := enc_Dyadic) (d := (TDyadic.mk (TRing.mk 0 0 0 0) 0)) rfl _)) ?_
  rintro _ w_1 ⟨b1, rfl, hS2⟩
  have hS2 : ST w0 [] _ [⟨some ⟨b, 0, none⟩, 28, [.int .i64 0, .int .i64 0, .slice none 0 0], 3⟩, ⟨some ⟨b1, 0, none⟩, 116, ((List.replicate ((IntKind.i64.wrap (n * n)).toNat) (TDyadic.mk (TRing.mk 0 0 0 0) 0)).flatMap enc_Dyadic), ((IntKind.i64.wrap (n * n)).toNat) * 5⟩] [] := hS2
  refine sq 11 rfl rfl (Y_buildS (zs := [.int .i64 0, .int .i64 0, .slice none 0 0]) (vs := [(0, .int .i64 n), (1, .int .i64 n), (2, .slice (some ⟨b1, 0, none⟩) ((IntKind.i64.wrap (n * n)).toNat) ((IntKind.i64.wrap (n * n)).toNat))]) (cs := [.int .i64 n, .int .i64 n, .slice (some ⟨b1, 0, none⟩) ((IntKind.i64.wrap (n * n)).toNat) ((IntKind.i64.wrap (n * n)).toNat)]) k_pl_28 k_zero_28 rfl (mpc rfl (mpc rfl (mpc rfl mpn))) rfl) ?_
  refine ss 3 rfl rfl (Ys_alloc (T := 28) (cs := [.int .i64 0, .int .i64 0, .slice none 0 0]) (m := 3) hS2 k_zero_28 rfl rfl rfl) ?_
  rintro _ w_2 ⟨b2, rfl, hS3⟩
  have hS3 : ST w0 [] _ [⟨some ⟨b, 0, none⟩, 28, [.int .i64 0, .int .i64 0, .slice none 0 0], 3⟩, ⟨some ⟨b1, 0, none⟩, 116, ((List.replicate ((IntKind.i64.wrap (n * n)).toNat) (TDyadic.mk (TRing.mk 0 0 0 0) 0)).flatMap enc_Dyadic), ((IntKind.i64.wrap (n * n)).toNat) * 5⟩, ⟨some ⟨b2, 0, none⟩, 28, [.int .i64 0, .int .i64 0, .slice none 0 0], 3⟩] [] := hS3
  refine ss0 rfl rfl (Ys_store (i := 2) (s := 3) (B := some ⟨b2, 0, none⟩) (T' := 28) (v := .agg #[.int .i64 n, .int .i64 n, .slice (some ⟨b1, 0, none⟩) ((IntKind.i64.wrap (n * n)).toNat) ((IntKind.i64.wrap (n * n)).toNat)]) (vs := [.int .i64 n, .int .i64 n, .slice (some ⟨b1, 0, none⟩) ((IntKind.i64.wrap (n * n)).toNat) ((IntKind.i64.wrap (n * n)).toNat)]) (k := 0) (cs' := [.int .i64 n, .int .i64 n, .slice (some ⟨b1, 0, none⟩) ((IntKind.i64.wrap (n * n)).toNat) ((IntKind.i64.wrap (n * n)).toNat)]) hS3 k_sz_28_3 rfl rfl rfl rfl rfl rfl rfl (Nat.le_of_ble_eq_true rfl) rfl rfl) ?_
  rintro _ w_3 ⟨rfl, hS4⟩
  have hS4 : ST w0 [] _ [⟨some ⟨b, 0, none⟩, 28, [.int .i64 0, .int .i64 0, .slice none 0 0], 3⟩, ⟨some ⟨b1, 0, none⟩, 116, ((List.replicate ((IntKind.i64.wrap (n * n)).toNat) (TDyadic.mk (TRing.mk 0 0 0 0) 0)).flatMap enc_Dyadic), ((IntKind.i64.wrap (n * n)).toNat) * 5⟩, ⟨some ⟨b2, 0, none⟩, 28, [.int .i64 n, .int .i64 n, .slice (some ⟨b1, 0, none⟩) ((IntKind.i64.wrap (n * n)).toNat) ((IntKind.i64.wrap (n * n)).toNat)], 3⟩] [] := hS4
  refine rw_nil ?_
  refine cw_seq ?_
  refine cw_seq ?_
  refine cw_region ?_
  refine sq 4 rfl rfl (Y_assign (v := .int .i64 0) rfl rfl) ?_
  refine rw_nil ?_
  obtain ⟨hN, hF⟩ := chk_inv hF
  obtain ⟨z, hz, hF1⟩ := bind_inv hF
  refine cw_block ?_
  refine cw_loop (fun k f w => ∃ (i1 : Nat) (Cells : List TDyadic), FF f [(0, .int .i64 n), (2, pt (some ⟨b, 0, none⟩) 0), (3, pt (some ⟨b2, 0, none⟩) 0), (4, .int .i64 (i1 : Int))] ∧ Cells.length = (IntKind.i64.wrap (n * n)).toNat ∧ ST w0 [] w [⟨some ⟨b, 0, none⟩, 28, [.int .i64 0, .int .i64 0, .slice none 0 0], 3⟩, ⟨some ⟨b2, 0, none⟩, 28, [.int .i64 n, .int .i64 n, .slice (some ⟨b1, 0, none⟩) ((IntKind.i64.wrap (n * n)).toNat) ((IntKind.i64.wrap (n * n)).toNat)], 3⟩, ⟨some ⟨b1, 0, none⟩, 116, (Cells.flatMap enc_Dyadic), ((IntKind.i64.wrap (n * n)).toNat) * 5⟩] [] ∧ i1 + k = n.toNat ∧ forN (F_spec_l3Unit_l1 n) k i1 Cells = some z) n.toNat ⟨0, (List.replicate ((IntKind.i64.wrap (n * n)).toNat) (TDyadic.mk (TRing.mk 0 0 0 0) 0)), (FF.cons rfl (FF.cons rfl (FF.cons rfl (FF.cons rfl FF.nil)))), List.length_replicate, (hS4.sel [0, 2, 1] rfl rfl), Nat.zero_add _, hz⟩ ?_
  rintro k_ f w ⟨i1, Cells, hf, hl, hS5, hik, hL⟩
  refine cw_seq ?_
  refine cw_seq ?_
  refine cw_region ?_
  refine sq 12 rfl rfl (Y_move (v := .int .i64 (i1 : Int)) rfl (hf.get 4 3 rfl)) ?_
  refine sq 13 rfl rfl (Y_move (v := .int .i64 n) rfl (hf.get 0 0 rfl)) ?_
  refine sq 14 rfl rfl (Y_lt (k := .i64) (a := (i1 : Int)) (b := n) rfl rfl rfl) ?_
  refine rw_nil ?_
  refine cw_cond (b := (decide ((i1 : Int) < n))) rfl (fun hlt => ?_) (fun hlt => ?_)
  · skip
    have hlt1 : i1 < n.toNat := by have h := of_decide_eq_true hlt; omega
    obtain ⟨k_1, rfl⟩ : ∃ k2, k_ = k2 + 1 := ⟨k_ - 1, by omega⟩
    obtain ⟨y, hb, hL1⟩ := forN_go hL
    unfold F_spec_l3Unit_l1 at hb
    refine cw_skip ?_
    refine cw_seq ?_
    refine cw_block ?_
    obtain ⟨r_1, hc, hb⟩ := bind_inv hb
    obtain ⟨x, hx, hb⟩ := bind_inv hb
    refine ra_start (ST.sel hS5 [0, 1] rfl rfl).fn (by kernel_rfl) ?_
    have hS7 := hS5.drew
    refine ra_q 0 17 (v := pt (some ⟨b2, 0, none⟩) 2) rfl rfl rfl (by kernel_rfl) (by kernel_rfl) (by kernel_rfl) (ST.sel hS7 [0, 1] rfl rfl) (fun w' hw' => (Y_fieldAddr (B := some ⟨b2, 0, none⟩) (i := 0) (s := 0) k_fd_28_2_2_26 k_sz_26_1 rfl (hf.get 3 2 rfl))) ?_
    refine ra_q 1 18 (v := .slice (some ⟨b1, 0, none⟩) ((IntKind.i64.wrap (n * n)).toNat) ((IntKind.i64.wrap (n * n)).toNat)) rfl rfl rfl (by kernel_rfl) (by kernel_rfl) (by kernel_rfl) (ST.sel hS7 [0, 1] rfl rfl) (fun w' hw' => (Y_load1 (B := some ⟨b2, 0, none⟩) (i := 2) (cs := [.int .i64 n, .int .i64 n, .slice (some ⟨b1, 0, none⟩) ((IntKind.i64.wrap (n * n)).toNat) ((IntKind.i64.wrap (n * n)).toNat)]) (v := .slice (some ⟨b1, 0, none⟩) ((IntKind.i64.wrap (n * n)).toNat) ((IntKind.i64.wrap (n * n)).toNat)) k_sc_26 rfl rfl (ST.cf hw' (i := 1) rfl) rfl)) ?_
    refine ra_q 2 19 (v := .int .i64 (i1 : Int)) rfl rfl rfl (by kernel_rfl) (by kernel_rfl) (by kernel_rfl) (ST.sel hS7 [0, 1] rfl rfl) (fun w' hw' => (Y_move (v := .int .i64 (i1 : Int)) rfl (hf.get 4 3 rfl))) ?_
    refine ra_q 3 20 (v := .int .i64 n) rfl rfl rfl (by kernel_rfl) (by kernel_rfl) (by kernel_rfl) (ST.sel hS7 [0, 1] rfl rfl) (fun w' hw' => (Y_move (v := .int .i64 n) rfl (hf.get 0 0 rfl))) ?_
    refine ra_q 4 21 (v := .int .i64 (IntKind.i64.wrap ((i1 : Int) * n))) rfl rfl rfl (by kernel_rfl) (by kernel_rfl) (by kernel_rfl) (ST.sel hS7 [0, 1] rfl rfl) (fun w' hw' => (Y_mul (k := .i64) (a := (i1 : Int)) (b := n) rfl rfl rfl)) ?_
    refine ra_q 5 22 (v := .int .i64 (i1 : Int)) rfl rfl rfl (by kernel_rfl) (by kernel_rfl) (by kernel_rfl) (ST.sel hS7 [0, 1] rfl rfl) (fun w' hw' => (Y_move (v := .int .i64 (i1 : Int)) rfl (hf.get 4 3 rfl))) ?_
    refine ra_q 6 23 (v := .int .i64 (IntKind.i64.wrap ((IntKind.i64.wrap ((i1 : Int) * n)) + (i1 : Int)))) rfl rfl rfl (by kernel_rfl) (by kernel_rfl) (by kernel_rfl) (ST.sel hS7 [0, 1] rfl rfl) (fun w' hw' => (Y_add (k := .i64) (a := (IntKind.i64.wrap ((i1 : Int) * n))) (b := (i1 : Int)) rfl rfl rfl)) ?_
    refine ra_all (rs := [7]) (by kernel_rfl) rfl ?_
    refine ra_c 24 (i := 7) rfl rfl rfl (Yc_func (g := 77) (vs := [.int .i64 0]) k_call_77 rfl (mc rfl mn) (c_spec_l2Power 0 _  (hS7.inn0 [] rfl) hc)) ?_ ?_
    · rintro _ w_4 ⟨rfl, hd⟩
      have hS8 := hS7.out00 hd
      have hS8 : ST w0 [] _ [⟨some ⟨b, 0, none⟩, 28, [.int .i64 0, .int .i64 0, .slice none 0 0], 3⟩, ⟨some ⟨b2, 0, none⟩, 28, [.int .i64 n, .int .i64 n, .slice (some ⟨b1, 0, none⟩) ((IntKind.i64.wrap (n * n)).toNat) ((IntKind.i64.wrap (n * n)).toNat)], 3⟩, ⟨some ⟨b1, 0, none⟩, 116, (Cells.flatMap enc_Dyadic), ((IntKind.i64.wrap (n * n)).toNat) * 5⟩] [] := hS8
      refine ⟨(ST.sel hS8 [0, 1] rfl rfl), ?_⟩
      refine ra_all (rs := [8]) (by kernel_rfl) rfl ?_
      refine ra_y 25 (i := 8) (v := pt (some ⟨b1, 0, none⟩) ((IntKind.i64.wrap ((IntKind.i64.wrap ((i1 : Int) * n)) + (i1 : Int))).toNat * 5)) rfl rfl rfl (Y_index (B := some ⟨b1, 0, none⟩) (m := (IntKind.i64.wrap (n * n)).toNat) (c := (IntKind.i64.wrap (n * n)).toNat) (k := .i64) (i := (IntKind.i64.wrap ((IntKind.i64.wrap ((i1 : Int) * n)) + (i1 : Int)))) k_sl_26_116 k_sz_116_5 rfl rfl rfl (gi_isSome enc_Dyadic_len rfl (hS8.cf (i := 2) rfl) hx) (getI_nn hx) (getI_ltI hx hl)) (ST.sel hS8 [0, 1] rfl rfl) ?_ ?_
      · skip
        refine ra_all (rs := [9]) (by kernel_rfl) rfl ?_
        refine ra_s0 (i := 9) rfl rfl rfl (Ys_store (i := 2) (s := 5) (B := some ⟨b1, 0, none⟩) (T' := 116) (v := .agg #[.int .i64 r_1.Num.A, .int .i64 r_1.Num.B, .int .i64 r_1.Num.C, .int .i64 r_1.Num.D, .int .i64 r_1.Exp]) (vs := [.int .i64 r_1.Num.A, .int .i64 r_1.Num.B, .int .i64 r_1.Num.C, .int .i64 r_1.Num.D, .int .i64 r_1.Exp]) (k := (IntKind.i64.wrap ((IntKind.i64.wrap ((i1 : Int) * n)) + (i1 : Int))).toNat * 5) (cs' := ((Cells.set (IntKind.i64.wrap ((IntKind.i64.wrap ((i1 : Int) * n)) + (i1 : Int))).toNat r_1).flatMap enc_Dyadic)) hS8 k_sz_116_5 rfl rfl rfl rfl rfl rfl rfl (gi_fit0 enc_Dyadic_len hx) (gi_set enc_Dyadic_len hx r_1 rfl) rfl) ?_ ?_
        · rintro _ w_5 ⟨rfl, hS9⟩
          have hS9 : ST w0 [] _ [⟨some ⟨b, 0, none⟩, 28, [.int .i64 0, .int .i64 0, .slice none 0 0], 3⟩, ⟨some ⟨b2, 0, none⟩, 28, [.int .i64 n, .int .i64 n, .slice (some ⟨b1, 0, none⟩) ((IntKind.i64.wrap (n * n)).toNat) ((IntKind.i64.wrap (n * n)).toNat)], 3⟩, ⟨some ⟨b1, 0, none⟩, 116, ((Cells.set (IntKind.i64.wrap ((IntKind.i64.wrap ((i1 : Int) * n)) + (i1 : Int))).toNat r_1).flatMap enc_Dyadic), ((IntKind.i64.wrap (n * n)).toNat) * 5⟩] [] := hS9
          refine ⟨(ST.sel hS9 [0, 1] rfl rfl), ?_⟩
          refine ra_done (by kernel_rfl) ?_
          refine cw_region ?_
          refine sq 15 rfl rfl (Y_move (v := .int .i64 (i1 : Int)) rfl (hf.get 4 3 rfl)) ?_
          refine sq 16 rfl rfl (Y_add (k := .i64) (a := (i1 : Int)) (b := 1) rfl rfl rfl) ?_
          refine sq 4 rfl rfl (Y_assign (v := .int .i64 (IntKind.i64.wrap ((i1 : Int) + 1))) rfl rfl) ?_
          refine rw_nil ?_
          obtain rfl := some_inj hb
          exact ⟨k_1, Nat.lt_succ_self _, i1 + 1, (Cells.set (IntKind.i64.wrap ((IntKind.i64.wrap ((i1 : Int) * n)) + (i1 : Int))).toNat r_1), (FF.cons (hf.get 0 0 rfl) (FF.cons (hf.get 2 1 rfl) (FF.cons (hf.get 3 2 rfl) (FF.cons (congrArg (Value.int .i64) (wr_succ hlt1 hN)) FF.nil)))), (set_len _ _ _ hl), (hS9.sel [0, 1, 2] rfl rfl), (by omega), hL1⟩
        exact allR_nil
      exact allR_nil
    exact allR_nil
  · skip
    obtain rfl : k_ = 0 := by have h := of_decide_eq_false hlt; omega
    refine cw_exit rfl ?_
    obtain rfl := some_inj hL
    refine cw_seq ?_
    refine cw_region ?_
    refine sq 26 rfl rfl (Y_loadA (B := some ⟨b2, 0, none⟩) (i := 0) (cs := [.int .i64 n, .int .i64 n, .slice (some ⟨b1, 0, none⟩) ((IntKind.i64.wrap (n * n)).toNat) ((IntKind.i64.wrap (n * n)).toNat)]) (vs := [.int .i64 n, .int .i64 n, .slice (some ⟨b1, 0, none⟩) ((IntKind.i64.wrap (n * n)).toNat) ((IntKind.i64.wrap (n * n)).toNat)]) k_ag_28 k_sz_28_3 rfl (hf.get 3 2 rfl) (hS5.cf (i := 1) rfl) rfl rfl) ?_
    refine ss0 rfl rfl (Ys_store (i := 0) (s := 3) (B := some ⟨b, 0, none⟩) (T' := 28) (v := .agg #[.int .i64 n, .int .i64 n, .slice (some ⟨b1, 0, none⟩) ((IntKind.i64.wrap (n * n)).toNat) ((IntKind.i64.wrap (n * n)).toNat)]) (vs := [.int .i64 n, .int .i64 n, .slice (some ⟨b1, 0, none⟩) ((IntKind.i64.wrap (n * n)).toNat) ((IntKind.i64.wrap (n * n)).toNat)]) (k := 0) (cs' := [.int .i64 n, .int .i64 n, .slice (some ⟨b1, 0, none⟩) ((IntKind.i64.wrap (n * n)).toNat) ((IntKind.i64.wrap (n * n)).toNat)]) hS5 k_sz_28_3 rfl (hf.get 2 1 rfl) rfl rfl rfl rfl rfl (Nat.le_of_ble_eq_true rfl) rfl rfl) ?_
    rintro _ w_6 ⟨rfl, hS10⟩
    have hS10 : ST w0 [] _ [⟨some ⟨b, 0, none⟩, 28, [.int .i64 n, .int .i64 n, .slice (some ⟨b1, 0, none⟩) ((IntKind.i64.wrap (n * n)).toNat) ((IntKind.i64.wrap (n * n)).toNat)], 3⟩, ⟨some ⟨b2, 0, none⟩, 28, [.int .i64 n, .int .i64 n, .slice (some ⟨b1, 0, none⟩) ((IntKind.i64.wrap (n * n)).toNat) ((IntKind.i64.wrap (n * n)).toNat)], 3⟩, ⟨some ⟨b1, 0, none⟩, 116, (Cells.flatMap enc_Dyadic), ((IntKind.i64.wrap (n * n)).toNat) * 5⟩] [] := hS10
    refine rw_nil ?_
    refine cw_ret ?_
    obtain rfl := some_inj hF1
    exact ret1 Try.results33 (v1 := .agg #[.int .i64 n, .int .i64 n, .slice (some ⟨b1, 0, none⟩) ((IntKind.i64.wrap (n * n)).toNat) ((IntKind.i64.wrap (n * n)).toNat)]) (resAt_cellA (B := some ⟨b, 0, none⟩) (i := 0) (cs := [.int .i64 n, .int .i64 n, .slice (some ⟨b1, 0, none⟩) ((IntKind.i64.wrap (n * n)).toNat) ((IntKind.i64.wrap (n * n)).toNat)]) (vs := [.int .i64 n, .int .i64 n, .slice (some ⟨b1, 0, none⟩) ((IntKind.i64.wrap (n * n)).toNat) ((IntKind.i64.wrap (n * n)).toNat)]) (hf.get 2 1 rfl) k_ag_28 k_sz_28_3 (hS10.cf (i := 0) rfl) rfl rfl) ⟨some ⟨b1, 0, none⟩, (IntKind.i64.wrap (n * n)).toNat, (by simp [hl]), (ST.subR (R' := []) (hS10.sel [2] rfl rfl) (fun _ h => by cases h))⟩

theorem c_spec_StateAfter (c : TCircuit) (start : Int) (B : Option Addr) (c1 n : Nat) (w0 : World) (hn : c.Gates.length = n) (hS : ST w0 [] w0 [] [⟨B, (c.Gates.flatMap enc_Gate)⟩]) {r_ : TMatrix} {r_1 : Bool} (hF : F_spec_StateAfter c start = some (r_, r_1)) :
    CV Try.prog 8 #[.agg #[.int .i64 c.Qubits, .slice B n c1], .int .i64 start] w0 (fun v w' => ∃ (B1 : Option Addr) (c2 : Nat), v = .tuple #[.agg #[.int .i64 r_.Rows, .int .i64 r_.Cols, .slice B1 r_.Cells.length c2], .bool r_1] ∧ ST w0 [] w' [⟨B1, 116, (r_.Cells.flatMap enc_Dyadic), c2 * 5⟩] []) := by
  subst hn
  unfold F_spec_StateAfter at hF
  refine cv_of_cw 37 Try.func8 rfl Try.ntmps8 rfl ?_
  refine cw_seq ?_
  refine cw_region ?_
  refine ss 2 rfl rfl (Ys_box (T := 33) (v := .agg #[.int .i64 c.Qubits, .slice B c.Gates.length c1]) (cs := [.int .i64 c.Qubits, .slice B c.Gates.length c1]) (m := 2) hS rfl rfl rfl rfl) ?_
  rintro _ w_ ⟨b, rfl, hS1⟩
  refine ss 4 rfl rfl (Ys_alloc (T := 28) (cs := [.int .i64 0, .int .i64 0, .slice none 0 0]) (m := 3) hS1 k_zero_28 rfl rfl rfl) ?_
  rintro _ w_1 ⟨b1, rfl, hS2⟩
  have hS2 : ST w0 [] _ [⟨some ⟨b, 0, none⟩, 33, [.int .i64 c.Qubits, .slice B c.Gates.length c1], 2⟩, ⟨some ⟨b1, 0, none⟩, 28, [.int .i64 0, .int .i64 0, .slice none 0 0], 3⟩] [⟨B, (c.Gates.flatMap enc_Gate)⟩] := hS2
  refine sq 5 rfl rfl (Y_assign (v := .bool false) rfl rfl) ?_
  refine rw_nil ?_
  refine cw_seq ?_
  refine cw_seq ?_
  refine cw_region ?_
  refine sq 7 rfl rfl (Y_loadA (B := some ⟨b, 0, none⟩) (i := 0) (cs := [.int .i64 c.Qubits, .slice B c.Gates.length c1]) (vs := [.int .i64 c.Qubits, .slice B c.Gates.length c1]) k_ag_33 k_sz_33_2 rfl rfl (hS2.cf (i := 0) rfl) rfl rfl) ?_
  obtain ⟨r_2, hc, hF⟩ := bind_inv hF
  refine sc 8 rfl rfl (Yc_func (g := 28) (vs := [.agg #[.int .i64 c.Qubits, .slice B c.Gates.length c1]]) k_call_28 rfl (mc rfl mn) (c_spec_l4Good c B c1 c.Gates.length _ rfl (hS2.inn0 [(true, 0)] rfl) hc)) ?_
  rintro _ w_2 ⟨rfl, hd⟩
  have hS3 := hS2.out00 hd
  have hS3 : ST w0 [] _ [⟨some ⟨b, 0, none⟩, 33, [.int .i64 c.Qubits, .slice B c.Gates.length c1], 2⟩, ⟨some ⟨b1, 0, none⟩, 28, [.int .i64 0, .int .i64 0, .slice none 0 0], 3⟩] [⟨B, (c.Gates.flatMap enc_Gate)⟩] := hS3
  refine sq 9 rfl rfl (Y_not (p := r_2) rfl rfl) ?_
  refine sq 10 rfl rfl (Y_move (v := .bool (!r_2)) rfl rfl) ?_
  refine sgq 11 (B := (!(!r_2))) (v := .int .i64 start) rfl rfl (wt_f (gd_of (t := 10) (by kernel_rfl) rfl)) (fun hg => (Y_move (v := .int .i64 start) rfl rfl)) ?_
  refine sgq 12 (B := (!(!r_2))) (v := pt (some ⟨b, 0, none⟩) 0) rfl rfl (wt_f (gd_of (t := 10) (by kernel_rfl) rfl)) (fun hg1 => (Y_fieldAddr (B := some ⟨b, 0, none⟩) (i := 0) (s := 0) k_fd_33_0_0_3 k_sz_3_1 rfl rfl)) ?_
  refine sgq 13 (B := (!(!r_2))) (v := .int .i64 c.Qubits) rfl rfl (wt_f (gd_of (t := 10) (by kernel_rfl) rfl)) (fun hg2 => (Y_load1 (B := some ⟨b, 0, none⟩) (i := 0) (cs := [.int .i64 c.Qubits, .slice B c.Gates.length c1]) (v := .int .i64 c.Qubits) k_sc_3 rfl (gv_of (B := (!(!r_2))) (v := pt (some ⟨b, 0, none⟩) 0) hg2) (hS3.cf (i := 0) rfl) rfl)) ?_
  refine sgq 14 (B := (!(!r_2))) (v := .int .u64 (IntKind.u64.wrap c.Qubits)) rfl rfl (wt_f (gd_of (t := 10) (by kernel_rfl) rfl)) (fun hg3 => (Y_conv (k := .i64) (a := c.Qubits) (T := 3) (T' := 66) k_us_3 k_int_66_u64 rfl (gv_of (B := (!(!r_2))) (v := .int .i64 c.Qubits) hg3))) ?_
  obtain ⟨hsh, hF⟩ := chk_inv hF
  refine sgq 15 (B := (!(!r_2))) (v := .int .i64 (shlK .i64 1 (IntKind.u64.wrap c.Qubits))) rfl rfl (wt_f (gd_of (t := 10) (by kernel_rfl) rfl)) (fun hg4 => (Y_shl (k := .i64) (a := 1) (k' := .u64) (b := (IntKind.u64.wrap c.Qubits)) rfl rfl (gv_of (B := (!(!r_2))) (v := .int .u64 (IntKind.u64.wrap c.Qubits)) hg4) (hsh hg4))) ?_
  refine sgq 16 (B := (!(!r_2))) (v := .int .i64 (IntKind.i64.wrap ((shlK .i64 1 (IntKind.u64.wrap c.Qubits)) - 1))) rfl rfl (wt_f (gd_of (t := 10) (by kernel_rfl) rfl)) (fun hg5 => (Y_sub (k := .i64) (a := (shlK .i64 1 (IntKind.u64.wrap c.Qubits))) (b := 1) rfl (gv_of (B := (!(!r_2))) (v := .int .i64 (shlK .i64 1 (IntKind.u64.wrap c.Qubits))) hg5) rfl)) ?_
  obtain ⟨r_3, hc1, hF⟩ := bind_inv hF
  refine sgc 17 (B := (!(!r_2))) (v := .bool r_3) (F := hS3.fn) rfl rfl (wt_f (gd_of (t := 10) (by kernel_rfl) rfl)) hS3 (fun hg6 => (Yc_func (g := 29) (vs := [.int .i64 start, .int .i64 0, .int .i64 (IntKind.i64.wrap ((shlK .i64 1 (IntKind.u64.wrap c.Qubits)) - 1))]) k_call_29 rfl (mc (gv_of (B := (!(!r_2))) (v := .int .i64 start) hg6) (mc rfl (mc (gv_of (B := (!(!r_2))) (v := .int .i64 (IntKind.i64.wrap ((shlK .i64 1 (IntKind.u64.wrap c.Qubits)) - 1))) hg6) mn))) (CV.mono (c_spec_l1In start 0 (IntKind.i64.wrap ((shlK .i64 1 (IntKind.u64.wrap c.Qubits)) - 1)) _  (hS3.inn0 [] rfl) (gb_inv hc1 hg6)) (by rintro _ _ ⟨rfl, h⟩; exact ⟨rfl, hS3.out00 h⟩)))) ?_
  rintro w_3 hS4
  have hS4 : ST _ _ w_3 _ _ := hS4
  refine sgq 18 (B := (!(!r_2))) (v := .bool (!r_3)) rfl rfl (wt_f (gd_of (t := 10) (by kernel_rfl) rfl)) (fun hg7 => (Y_not (p := r_3) rfl (gv_of (B := (!(!r_2))) (v := .bool r_3) hg7))) ?_
  refine sq 19 rfl rfl (Y_or (b := (!r_2)) (z := (!r_3)) rfl rfl rfl rfl) ?_
  refine rw_nil ?_
  refine cw_cond (b := ((!r_2) || (!r_3))) rfl (fun hb => ?_) (fun hb => ?_)
  · skip
    have hF1 := ct hF hb
    refine cw_seq ?_
    refine cw_region ?_
    refine sq 20 rfl rfl (Y_buildS (zs := [.int .i64 0, .int .i64 0, .slice none 0 0]) (vs := []) (cs := [.int .i64 0, .int .i64 0, .slice none 0 0]) k_pl_28 k_zero_28 rfl mpn rfl) ?_
    refine ss0 rfl rfl (Ys_store (i := 1) (s := 3) (B := some ⟨b1, 0, none⟩) (T' := 28) (v := .agg #[.int .i64 0, .int .i64 0, .slice none 0 0]) (vs := [.int .i64 0, .int .i64 0, .slice none 0 0]) (k := 0) (cs' := [.int .i64 0, .int .i64 0, .slice none 0 0]) hS4 k_sz_28_3 rfl rfl rfl rfl rfl rfl rfl (Nat.le_of_ble_eq_true rfl) rfl rfl) ?_
    rintro _ w_4 ⟨rfl, hS5⟩
    have hS5 : ST w0 [] _ [⟨some ⟨b, 0, none⟩, 33, [.int .i64 c.Qubits, .slice B c.Gates.length c1], 2⟩, ⟨some ⟨b1, 0, none⟩, 28, [.int .i64 0, .int .i64 0, .slice none 0 0], 3⟩] [⟨B, (c.Gates.flatMap enc_Gate)⟩] := hS5
    refine sq 5 rfl rfl (Y_assign (v := .bool false) rfl rfl) ?_
    refine rw_nil ?_
    refine cw_ret ?_
    have hS6 := hS5.addNil 116
    obtain ⟨rfl, rfl⟩ := pr2 (some_inj hF1)
    exact ret2 Try.results8 (v1 := .agg #[.int .i64 0, .int .i64 0, .slice none 0 0]) (resAt_cellA (B := some ⟨b1, 0, none⟩) (i := 0) (cs := [.int .i64 0, .int .i64 0, .slice none 0 0]) (vs := [.int .i64 0, .int .i64 0, .slice none 0 0]) rfl k_ag_28 k_sz_28_3 (hS6.cf (i := 1) rfl) rfl rfl) (v2 := .bool false) (resAt_tmp rfl) ⟨none, 0, rfl, (ST.subR (R' := []) (hS6.sel [2] rfl rfl) (fun _ h => by cases h))⟩
  · skip
    have hF2 := cf' hF hb
    refine cw_skip ?_
    refine cw_seq ?_
    refine cw_region ?_
    refine sq 21 rfl rfl (Y_buildS (zs := [.bool false]) (vs := []) (cs := [.bool false]) k_pl_69 k_zero_69 rfl mpn rfl) ?_
    refine ss 22 rfl rfl (Ys_box (T := 69) (v := .agg #[.bool false]) (cs := [.bool false]) (m := 1) hS4 rfl rfl rfl rfl) ?_
    rintro _ w_5 ⟨b2, rfl, hS7⟩
    have hS7 : ST w0 [] _ [⟨some ⟨b, 0, none⟩, 33, [.int .i64 c.Qubits, .slice B c.Gates.length c1], 2⟩, ⟨some ⟨b1, 0, none⟩, 28, [.int .i64 0, .int .i64 0, .slice none 0 0], 3⟩, ⟨some ⟨b2, 0, none⟩, 69, [.bool false], 1⟩] [⟨B, (c.Gates.flatMap enc_Gate)⟩] := hS7
    refine sq 6 rfl rfl (Y_assign (v := pt (some ⟨b2, 0, none⟩) 0) rfl rfl) ?_
    refine rw_nil ?_
    refine cw_seq ?_
    obtain ⟨hsh1, hF2⟩ := chk_inv hF2
    obtain ⟨r_4, hc2, hF2⟩ := bind_inv hF2
    obtain ⟨r_5, hc3, hF2⟩ := bind_inv hF2
    obtain ⟨⟨r_6, m⟩, hc4, hF2⟩ := bind_inv hF2
    obtain ⟨⟨r_7, r_8⟩, hc5, hF2⟩ := bind_inv hF2
    refine ra_start (ST.sel hS7 [0] rfl rfl).fn (by kernel_rfl) ?_
    have hS12 := hS7.drew
    refine ra_q 0 23 (v := pt (some ⟨b2, 0, none⟩) 0) rfl rfl rfl (by kernel_rfl) (by kernel_rfl) (by kernel_rfl) (ST.sel hS12 [0] rfl rfl) (fun w' hw' => (Y_move (v := pt (some ⟨b2, 0, none⟩) 0) rfl rfl)) ?_
    refine ra_q 1 24 (v := pt (some ⟨b2, 0, none⟩) 0) rfl rfl rfl (by kernel_rfl) (by kernel_rfl) (by kernel_rfl) (ST.sel hS12 [0] rfl rfl) (fun w' hw' => (Y_move (v := pt (some ⟨b2, 0, none⟩) 0) rfl rfl)) ?_
    refine ra_q 2 25 (v := .agg #[.int .i64 c.Qubits, .slice B c.Gates.length c1]) rfl rfl rfl (by kernel_rfl) (by kernel_rfl) (by kernel_rfl) (ST.sel hS12 [0] rfl rfl) (fun w' hw' => (Y_loadA (B := some ⟨b, 0, none⟩) (i := 0) (cs := [.int .i64 c.Qubits, .slice B c.Gates.length c1]) (vs := [.int .i64 c.Qubits, .slice B c.Gates.length c1]) k_ag_33 k_sz_33_2 rfl rfl (ST.cf hw' (i := 0) rfl) rfl rfl)) ?_
    refine ra_q 3 26 (v := pt (some ⟨b, 0, none⟩) 0) rfl rfl rfl (by kernel_rfl) (by kernel_rfl) (by kernel_rfl) (ST.sel hS12 [0] rfl rfl) (fun w' hw' => (Y_fieldAddr (B := some ⟨b, 0, none⟩) (i := 0) (s := 0) k_fd_33_0_0_3 k_sz_3_1 rfl rfl)) ?_
    refine ra_q 4 27 (v := .int .i64 c.Qubits) rfl rfl rfl (by kernel_rfl) (by kernel_rfl) (by kernel_rfl) (ST.sel hS12 [0] rfl rfl) (fun w' hw' => (Y_load1 (B := some ⟨b, 0, none⟩) (i := 0) (cs := [.int .i64 c.Qubits, .slice B c.Gates.length c1]) (v := .int .i64 c.Qubits) k_sc_3 rfl rfl (ST.cf hw' (i := 0) rfl) rfl)) ?_
    refine ra_q 5 28 (v := .int .u64 (IntKind.u64.wrap c.Qubits)) rfl rfl rfl (by kernel_rfl) (by kernel_rfl) (by kernel_rfl) (ST.sel hS12 [0] rfl rfl) (fun w' hw' => (Y_conv (k := .i64) (a := c.Qubits) (T := 3) (T' := 66) k_us_3 k_int_66_u64 rfl rfl)) ?_
    refine ra_q 6 29 (v := .int .i64 (shlK .i64 1 (IntKind.u64.wrap c.Qubits))) rfl rfl rfl (by kernel_rfl) (by kernel_rfl) (by kernel_rfl) (ST.sel hS12 [0] rfl rfl) (fun w' hw' => (Y_shl (k := .i64) (a := 1) (k' := .u64) (b := (IntKind.u64.wrap c.Qubits)) rfl rfl rfl hsh1)) ?_
    refine ra_q 8 31 (v := .int .i64 start) rfl rfl rfl (by kernel_rfl) (by kernel_rfl) (by kernel_rfl) (ST.sel hS12 [0] rfl rfl) (fun w' hw' => (Y_move (v := .int .i64 start) rfl rfl)) ?_
    refine ra_all (rs := [7]) (by kernel_rfl) rfl ?_
    refine ra_c 30 (i := 7) rfl rfl rfl (Yc_func (g := 33) (vs := [.int .i64 (shlK .i64 1 (IntKind.u64.wrap c.Qubits))]) k_call_33 rfl (mc rfl mn) (c_spec_l3Unit (shlK .i64 1 (IntKind.u64.wrap c.Qubits)) _  (hS12.inn0 [] rfl) hc2)) ?_ ?_
    · rintro _ w_6 ⟨B2, c3, rfl, hd1⟩
      have hS13 := hS12.out0 hd1
      have hS13 : ST w0 [] _ [⟨some ⟨b, 0, none⟩, 33, [.int .i64 c.Qubits, .slice B c.Gates.length c1], 2⟩, ⟨some ⟨b1, 0, none⟩, 28, [.int .i64 0, .int .i64 0, .slice none 0 0], 3⟩, ⟨some ⟨b2, 0, none⟩, 69, [.bool false], 1⟩, ⟨B2, 116, (r_4.Cells.flatMap enc_Dyadic), c3 * 5⟩] [⟨B, (c.Gates.flatMap enc_Gate)⟩] := hS13
      refine ⟨(ST.sel hS13 [0] rfl rfl), ?_⟩
      refine ra_all (rs := [9]) (by kernel_rfl) rfl ?_
      refine ra_c 32 (i := 9) rfl rfl rfl (Yc_func (g := 32) (vs := [.agg #[.int .i64 r_4.Rows, .int .i64 r_4.Cols, .slice B2 r_4.Cells.length c3], .int .i64 start]) k_call_32 rfl (mc rfl (mc rfl mn)) (c_spec_l3Column r_4 start B2 c3 r_4.Cells.length _ rfl (hS13.inn0 [(false, 3)] rfl) hc3)) ?_ ?_
      · rintro _ w_7 ⟨B3, c4, rfl, hd2⟩
        have hS14 := hS13.out0 hd2
        have hS14 : ST w0 [] _ [⟨some ⟨b, 0, none⟩, 33, [.int .i64 c.Qubits, .slice B c.Gates.length c1], 2⟩, ⟨some ⟨b1, 0, none⟩, 28, [.int .i64 0, .int .i64 0, .slice none 0 0], 3⟩, ⟨some ⟨b2, 0, none⟩, 69, [.bool false], 1⟩, ⟨B2, 116, (r_4.Cells.flatMap enc_Dyadic), c3 * 5⟩, ⟨B3, 116, (r_5.Cells.flatMap enc_Dyadic), c4 * 5⟩] [⟨B, (c.Gates.flatMap enc_Gate)⟩] := hS14
        refine ⟨(ST.sel hS14 [0] rfl rfl), ?_⟩
        refine ra_all (rs := [10]) (by kernel_rfl) rfl ?_
        refine ra_c 33 (i := 10) rfl rfl rfl (Yc_func (g := 31) (vs := [pt (some ⟨b2, 0, none⟩) 0, .agg #[.int .i64 c.Qubits, .slice B c.Gates.length c1], .agg #[.int .i64 r_5.Rows, .int .i64 r_5.Cols, .slice B3 r_5.Cells.length c4]]) k_call_31 rfl (mc rfl (mc rfl (mc rfl mn))) (c_spec_l2C_run (Tl2C.mk false) c r_5 (some ⟨b2, 0, none⟩) B c1 c.Gates.length B3 c4 r_5.Cells.length _ rfl rfl (hS14.inn [false, false, true, false, true] rfl [(true, 0)] rfl) hc4)) ?_ ?_
        · rintro _ w_8 ⟨B4, c5, rfl, hd3⟩
          have hS15 := hS14.out [false, false, true, false, true] rfl hd3
          have hS15 : ST w0 [] _ [⟨some ⟨b, 0, none⟩, 33, [.int .i64 c.Qubits, .slice B c.Gates.length c1], 2⟩, ⟨some ⟨b1, 0, none⟩, 28, [.int .i64 0, .int .i64 0, .slice none 0 0], 3⟩, ⟨B2, 116, (r_4.Cells.flatMap enc_Dyadic), c3 * 5⟩, ⟨some ⟨b2, 0, none⟩, 69, [.bool m.bad], 1⟩, ⟨B4, 116, (r_6.Cells.flatMap enc_Dyadic), c5 * 5⟩] [⟨B, (c.Gates.flatMap enc_Gate)⟩] := hS15
          refine ⟨(ST.sel hS15 [0] rfl rfl), ?_⟩
          refine ra_all (rs := [11]) (by kernel_rfl) rfl ?_
          refine ra_c 34 (i := 11) rfl rfl rfl (Yc_func (g := 30) (vs := [pt (some ⟨b2, 0, none⟩) 0, .agg #[.int .i64 r_6.Rows, .int .i64 r_6.Cols, .slice B4 r_6.Cells.length c5]]) k_call_30 rfl (mc rfl (mc rfl mn)) (c_spec_l2C_matrix m r_6 (some ⟨b2, 0, none⟩) B4 c5 r_6.Cells.length _ rfl (hS15.inn [false, false, false, false, true] rfl [(false, 3)] rfl) hc5)) ?_ ?_
          · rintro _ w_9 ⟨B5, c6, rfl, hd4⟩
            have hS16 := hS15.out [false, false, false, false, true] rfl hd4
            have hS16 : ST w0 [] _ [⟨some ⟨b, 0, none⟩, 33, [.int .i64 c.Qubits, .slice B c.Gates.length c1], 2⟩, ⟨some ⟨b1, 0, none⟩, 28, [.int .i64 0, .int .i64 0, .slice none 0 0], 3⟩, ⟨B2, 116, (r_4.Cells.flatMap enc_Dyadic), c3 * 5⟩, ⟨some ⟨b2, 0, none⟩, 69, [.bool m.bad], 1⟩, ⟨B5, 116, (r_7.Cells.flatMap enc_Dyadic), c6 * 5⟩] [⟨B, (c.Gates.flatMap enc_Gate)⟩] := hS16
            refine ⟨(ST.sel hS16 [0] rfl rfl), ?_⟩
            refine ra_q 12 35 (v := .agg #[.int .i64 r_7.Rows, .int .i64 r_7.Cols, .slice B5 r_7.Cells.length c6]) rfl rfl rfl (by kernel_rfl) (by kernel_rfl) (by kernel_rfl) (ST.sel hS16 [0] rfl rfl) (fun w' hw' => (Y_extract (v := .agg #[.int .i64 r_7.Rows, .int .i64 r_7.Cols, .slice B5 r_7.Cells.length c6]) rfl rfl rfl)) ?_
            refine ra_q 13 36 (v := .bool r_8) rfl rfl rfl (by kernel_rfl) (by kernel_rfl) (by kernel_rfl) (ST.sel hS16 [0] rfl rfl) (fun w' hw' => (Y_extract (v := .bool r_8) rfl rfl rfl)) ?_
            refine ra_all (rs := [14]) (by kernel_rfl) rfl ?_
            refine ra_s0 (i := 14) rfl rfl rfl (Ys_store (i := 1) (s := 3) (B := some ⟨b1, 0, none⟩) (T' := 28) (v := .agg #[.int .i64 r_7.Rows, .int .i64 r_7.Cols, .slice B5 r_7.Cells.length c6]) (vs := [.int .i64 r_7.Rows, .int .i64 r_7.Cols, .slice B5 r_7.Cells.length c6]) (k := 0) (cs' := [.int .i64 r_7.Rows, .int .i64 r_7.Cols, .slice B5 r_7.Cells.length c6]) hS16 k_sz_28_3 rfl rfl rfl rfl rfl rfl rfl (Nat.le_of_ble_eq_true rfl) rfl rfl) ?_ ?_
            · rintro _ w_10 ⟨rfl, hS17⟩
              have hS17 : ST w0 [] _ [⟨some ⟨b, 0, none⟩, 33, [.int .i64 c.Qubits, .slice B c.Gates.length c1], 2⟩, ⟨some ⟨b1, 0, none⟩, 28, [.int .i64 r_7.Rows, .int .i64 r_7.Cols, .slice B5 r_7.Cells.length c6], 3⟩, ⟨B2, 116, (r_4.Cells.flatMap enc_Dyadic), c3 * 5⟩, ⟨some ⟨b2, 0, none⟩, 69, [.bool m.bad], 1⟩, ⟨B5, 116, (r_7.Cells.flatMap enc_Dyadic), c6 * 5⟩] [⟨B, (c.Gates.flatMap enc_Gate)⟩] := hS17
              refine ⟨(ST.sel hS17 [0] rfl rfl), ?_⟩
              refine ra_q 15 5 (v := .bool r_8) rfl rfl rfl (by kernel_rfl) (by kernel_rfl) (by kernel_rfl) (ST.sel hS17 [0] rfl rfl) (fun w' hw' => (Y_assign (v := .bool r_8) rfl rfl)) ?_
              refine ra_done (by kernel_rfl) ?_
              refine cw_ret ?_
              obtain ⟨rfl, rfl⟩ := pr2 (some_inj hF2)
              exact ret2 Try.results8 (v1 := .agg #[.int .i64 r_7.Rows, .int .i64 r_7.Cols, .slice B5 r_7.Cells.length c6]) (resAt_cellA (B := some ⟨b1, 0, none⟩) (i := 0) (cs := [.int .i64 r_7.Rows, .int .i64 r_7.Cols, .slice B5 r_7.Cells.length c6]) (vs := [.int .i64 r_7.Rows, .int .i64 r_7.Cols, .slice B5 r_7.Cells.length c6]) rfl k_ag_28 k_sz_28_3 (hS17.cf (i := 1) rfl) rfl rfl) (v2 := .bool r_8) (resAt_tmp rfl) ⟨B5, c6, rfl, (ST.subR (R' := []) (hS17.sel [4] rfl rfl) (fun _ h => by cases h))⟩
            exact allR_nil
          exact allR_nil
        exact allR_nil
      exact allR_nil
    exact allR_nil

theorem c_laws_toGate (a : TGate)  (w0 : World)  (hS : ST w0 [] w0 [] []) {r_ : TGate} (hF : F_laws_toGate a = some r_) :
    CV Try.prog 78 #[.agg #[.int .i64 a.Kind, .int .i64 a.A, .int .i64 a.B]] w0 (fun v w' => v = .agg #[.int .i64 r_.Kind, .int .i64 r_.A, .int .i64 r_.B] ∧ ST w0 [] w' [] []) := by
  unfold F_laws_toGate at hF
  refine cv_of_cw 14 Try.func78 rfl Try.ntmps78 rfl ?_
  refine cw_seq ?_
  refine cw_region ?_
  refine ss 1 rfl rfl (Ys_box (T := 119) (v := .agg #[.int .i64 a.Kind, .int .i64 a.A, .int .i64 a.B]) (cs := [.int .i64 a.Kind, .int .i64 a.A, .int .i64 a.B]) (m := 3) hS rfl rfl rfl rfl) ?_
  rintro _ w_ ⟨b, rfl, hS1⟩
  refine ss 2 rfl rfl (Ys_alloc (T := 109) (cs := [.int .i64 0, .int .i64 0, .int .i64 0]) (m := 3) hS1 k_zero_109 rfl rfl rfl) ?_
  rintro _ w_1 ⟨b1, rfl, hS2⟩
  have hS2 : ST w0 [] _ [⟨some ⟨b, 0, none⟩, 119, [.int .i64 a.Kind, .int .i64 a.A, .int .i64 a.B], 3⟩, ⟨some ⟨b1, 0, none⟩, 109, [.int .i64 0, .int .i64 0, .int .i64 0], 3⟩] [] := hS2
  refine rw_nil ?_
  refine cw_seq ?_
  refine cw_region ?_
  refine ss 3 rfl rfl (Ys_alloc (T := 109) (cs := [.int .i64 0, .int .i64 0, .int .i64 0]) (m := 3) hS2 k_zero_109 rfl rfl rfl) ?_
  rintro _ w_2 ⟨b2, rfl, hS3⟩
  have hS3 : ST w0 [] _ [⟨some ⟨b, 0, none⟩, 119, [.int .i64 a.Kind, .int .i64 a.A, .int .i64 a.B], 3⟩, ⟨some ⟨b1, 0, none⟩, 109, [.int .i64 0, .int .i64 0, .int .i64 0], 3⟩, ⟨some ⟨b2, 0, none⟩, 109, [.int .i64 0, .int .i64 0, .int .i64 0], 3⟩] [] := hS3
  refine rw_nil ?_
  refine cw_seq ?_
  refine cw_region ?_
  refine sq 4 rfl rfl (Y_fieldAddr (B := some ⟨b, 0, none⟩) (i := 0) (s := 0) k_fd_119_0_0_3 k_sz_3_1 rfl rfl) ?_
  refine sq 5 rfl rfl (Y_load1 (B := some ⟨b, 0, none⟩) (i := 0) (cs := [.int .i64 a.Kind, .int .i64 a.A, .int .i64 a.B]) (v := .int .i64 a.Kind) k_sc_3 rfl rfl (hS3.cf (i := 0) rfl) rfl) ?_
  refine sq 6 rfl rfl (Y_fieldAddr (B := some ⟨b2, 0, none⟩) (i := 0) (s := 0) k_fd_109_0_0_3 k_sz_3_1 rfl rfl) ?_
  refine ss0 rfl rfl (Ys_store (i := 2) (s := 1) (B := some ⟨b2, 0, none⟩) (T' := 109) (v := .int .i64 a.Kind) (vs := [.int .i64 a.Kind]) (k := 0) (cs' := [.int .i64 a.Kind, .int .i64 0, .int .i64 0]) hS3 k_sz_3_1 rfl rfl rfl rfl rfl rfl rfl (Nat.le_of_ble_eq_true rfl) rfl rfl) ?_
  rintro _ w_3 ⟨rfl, hS4⟩
  have hS4 : ST w0 [] _ [⟨some ⟨b, 0, none⟩, 119, [.int .i64 a.Kind, .int .i64 a.A, .int .i64 a.B], 3⟩, ⟨some ⟨b1, 0, none⟩, 109, [.int .i64 0, .int .i64 0, .int .i64 0], 3⟩, ⟨some ⟨b2, 0, none⟩, 109, [.int .i64 a.Kind, .int .i64 0, .int .i64 0], 3⟩] [] := hS4
  refine rw_nil ?_
  refine cw_seq ?_
  refine cw_region ?_
  refine sq 7 rfl rfl (Y_fieldAddr (B := some ⟨b, 0, none⟩) (i := 0) (s := 0) k_fd_119_1_1_3 k_sz_3_1 rfl rfl) ?_
  refine sq 8 rfl rfl (Y_load1 (B := some ⟨b, 0, none⟩) (i := 1) (cs := [.int .i64 a.Kind, .int .i64 a.A, .int .i64 a.B]) (v := .int .i64 a.A) k_sc_3 rfl rfl (hS4.cf (i := 0) rfl) rfl) ?_
  refine sq 9 rfl rfl (Y_fieldAddr (B := some ⟨b2, 0, none⟩) (i := 0) (s := 0) k_fd_109_1_1_3 k_sz_3_1 rfl rfl) ?_
  refine ss0 rfl rfl (Ys_store (i := 2) (s := 1) (B := some ⟨b2, 0, none⟩) (T' := 109) (v := .int .i64 a.A) (vs := [.int .i64 a.A]) (k := 1) (cs' := [.int .i64 a.Kind, .int .i64 a.A, .int .i64 0]) hS4 k_sz_3_1 rfl rfl rfl rfl rfl rfl rfl (Nat.le_of_ble_eq_true rfl) rfl rfl) ?_
  rintro _ w_4 ⟨rfl, hS5⟩
  have hS5 : ST w0 [] _ [⟨some ⟨b, 0, none⟩, 119, [.int .i64 a.Kind, .int .i64 a.A, .int .i64 a.B], 3⟩, ⟨some ⟨b1, 0, none⟩, 109, [.int .i64 0, .int .i64 0, .int .i64 0], 3⟩, ⟨some ⟨b2, 0, none⟩, 109, [.int .i64 a.Kind, .int .i64 a.A, .int .i64 0], 3⟩] [] := hS5
  refine rw_nil ?_
  refine cw_seq ?_
  refine cw_region ?_
  refine sq 10 rfl rfl (Y_fieldAddr (B := some ⟨b, 0, none⟩) (i := 0) (s := 0) k_fd_119_2_2_3 k_sz_3_1 rfl rfl) ?_
  refine sq 11 rfl rfl (Y_load1 (B := some ⟨b, 0, none⟩) (i := 2) (cs := [.int .i64 a.Kind, .int .i64 a.A, .int .i64 a.B]) (v := .int .i64 a.B) k_sc_3 rfl rfl (hS5.cf (i := 0) rfl) rfl) ?_
  refine sq 12 rfl rfl (Y_fieldAddr (B := some ⟨b2, 0, none⟩) (i := 0) (s := 0) k_fd_109_2_2_3 k_sz_3_1 rfl rfl) ?_
  refine ss0 rfl rfl (Ys_store (i := 2) (s := 1) (B := some ⟨b2, 0, none⟩) (T' := 109) (v := .int .i64 a.B) (vs := [.int .i64 a.B]) (k := 2) (cs' := [.int .i64 a.Kind, .int .i64 a.A, .int .i64 a.B]) hS5 k_sz_3_1 rfl rfl rfl rfl rfl rfl rfl (Nat.le_of_ble_eq_true rfl) rfl rfl) ?_
  rintro _ w_5 ⟨rfl, hS6⟩
  have hS6 : ST w0 [] _ [⟨some ⟨b, 0, none⟩, 119, [.int .i64 a.Kind, .int .i64 a.A, .int .i64 a.B], 3⟩, ⟨some ⟨b1, 0, none⟩, 109, [.int .i64 0, .int .i64 0, .int .i64 0], 3⟩, ⟨some ⟨b2, 0, none⟩, 109, [.int .i64 a.Kind, .int .i64 a.A, .int .i64 a.B], 3⟩] [] := hS6
  refine rw_nil ?_
  refine cw_seq ?_
  refine cw_region ?_
  refine sq 13 rfl rfl (Y_loadA (B := some ⟨b2, 0, none⟩) (i := 0) (cs := [.int .i64 a.Kind, .int .i64 a.A, .int .i64 a.B]) (vs := [.int .i64 a.Kind, .int .i64 a.A, .int .i64 a.B]) k_ag_109 k_sz_109_3 rfl rfl (hS6.cf (i := 2) rfl) rfl rfl) ?_
  refine ss0 rfl rfl (Ys_store (i := 1) (s := 3) (B := some ⟨b1, 0, none⟩) (T' := 109) (v := .agg #[.int .i64 a.Kind, .int .i64 a.A, .int .i64 a.B]) (vs := [.int .i64 a.Kind, .int .i64 a.A, .int .i64 a.B]) (k := 0) (cs' := [.int .i64 a.Kind, .int .i64 a.A, .int .i64 a.B]) hS6 k_sz_109_3 rfl rfl rfl rfl rfl rfl rfl (Nat.le_of_ble_eq_true rfl) rfl rfl) ?_
  rintro _ w_6 ⟨rfl, hS7⟩
  have hS7 : ST w0 [] _ [⟨some ⟨b, 0, none⟩, 119, [.int .i64 a.Kind, .int .i64 a.A, .int .i64 a.B], 3⟩, ⟨some ⟨b1, 0, none⟩, 109, [.int .i64 a.Kind, .int .i64 a.A, .int .i64 a.B], 3⟩, ⟨some ⟨b2, 0, none⟩, 109, [.int .i64 a.Kind, .int .i64 a.A, .int .i64 a.B], 3⟩] [] := hS7
  refine rw_nil ?_
  refine cw_ret ?_
  obtain rfl := some_inj hF
  exact ret1 Try.results78 (v1 := .agg #[.int .i64 a.Kind, .int .i64 a.A, .int .i64 a.B]) (resAt_cellA (B := some ⟨b1, 0, none⟩) (i := 0) (cs := [.int .i64 a.Kind, .int .i64 a.A, .int .i64 a.B]) (vs := [.int .i64 a.Kind, .int .i64 a.A, .int .i64 a.B]) rfl k_ag_109 k_sz_109_3 (hS7.cf (i := 1) rfl) rfl rfl) ⟨rfl, (ST.subR (R' := []) (hS7.sel [] rfl rfl) (fun _ h => by cases h))⟩

theorem c_laws_toGateS (a : List TGate) (B : Option Addr) (c n : Nat) (w0 : World) (hn : a.length = n) (hS : ST w0 [] w0 [] [⟨B, (a.flatMap enc_Gate)⟩]) {r_ : List TGate} (hF : F_laws_toGateS a = some r_) :
    CV Try.prog 34 #[.slice B n c] w0 (fun v w' => ∃ (B1 : Option Addr) (c1 : Nat), v = .slice B1 r_.length c1 ∧ ST w0 [] w' [⟨B1, 109, (r_.flatMap enc_Gate), c1 * 3⟩] []) := by
  subst hn
  unfold F_laws_toGateS at hF
  refine cv_of_cw 23 Try.func34 rfl Try.ntmps34 rfl ?_
  refine cw_seq ?_
  refine cw_region ?_
  refine sq 2 rfl rfl (Y_assign (v := .slice none 0 0) rfl rfl) ?_
  refine rw_nil ?_
  refine cw_seq ?_
  refine cw_region ?_
  refine sq 5 rfl rfl (Y_move (v := .slice B a.length c) rfl rfl) ?_
  refine sq 6 rfl rfl (Y_len (B := B) (m := a.length) (c := c) k_sl_22_119 rfl rfl) ?_
  obtain ⟨hmk, hF⟩ := chk_inv hF
  refine ss 7 rfl rfl (Ys_make (s := 3) (by' := 24) (nn := a.length) (a := (a.length : Int)) (b := (a.length : Int)) (cs := ((List.replicate a.length (TGate.mk 0 0 0)).flatMap enc_Gate)) hS k_sl_31_109 k_sz_109_3 k_by_109_24 k_zero_109 rfl rfl rfl rfl hmk.1 rfl (by have := hmk; omega) (by have := hmk; omega) (by omega) (fm_rep (enc := enc_Gate) (d := (TGate.mk 0 0 0)) rfl _)) ?_
  rintro _ w_ ⟨b, rfl, hS1⟩
  refine sq 3 rfl rfl (Y_assign (v := .slice (some ⟨b, 0, none⟩) a.length a.length) rfl rfl) ?_
  refine rw_nil ?_
  refine cw_seq ?_
  refine cw_seq ?_
  refine cw_region ?_
  refine sq 4 rfl rfl (Y_assign (v := .int .i64 0) rfl rfl) ?_
  refine rw_nil ?_
  obtain ⟨hN, hF⟩ := chk_inv hF
  obtain ⟨z, hz, hF1⟩ := bind_inv hF
  refine cw_block ?_
  refine cw_loop (fun k f w => ∃ (i1 : Nat) (out : List TGate), FF f [(0, .slice B a.length c), (3, .slice (some ⟨b, 0, none⟩) a.length a.length), (4, .int .i64 (i1 : Int))] ∧ out.length = a.length ∧ ST w0 [] w [⟨some ⟨b, 0, none⟩, 109, (out.flatMap enc_Gate), a.length * 3⟩] [⟨B, (a.flatMap enc_Gate)⟩] ∧ i1 + k = a.length ∧ forN (F_laws_toGateS_l1 a) k i1 out = some z) a.length ⟨0, (List.replicate a.length (TGate.mk 0 0 0)), (FF.cons rfl (FF.cons rfl (FF.cons rfl FF.nil))), List.length_replicate, (hS1.sel [0] rfl rfl), Nat.zero_add _, hz⟩ ?_
  rintro k_ f w ⟨i1, out, hf, hl, hS2, hik, hL⟩
  refine cw_seq ?_
  refine cw_seq ?_
  refine cw_region ?_
  refine sq 8 rfl rfl (Y_move (v := .int .i64 (i1 : Int)) rfl (hf.get 4 2 rfl)) ?_
  refine sq 9 rfl rfl (Y_move (v := .slice B a.length c) rfl (hf.get 0 0 rfl)) ?_
  refine sq 10 rfl rfl (Y_len (B := B) (m := a.length) (c := c) k_sl_22_119 rfl rfl) ?_
  refine sq 11 rfl rfl (Y_lt (k := .i64) (a := (i1 : Int)) (b := (a.length : Int)) rfl rfl rfl) ?_
  refine rw_nil ?_
  refine cw_cond (b := (decide ((i1 : Int) < (a.length : Int)))) rfl (fun hlt => ?_) (fun hlt => ?_)
  · skip
    have hlt1 : i1 < a.length := by have h := of_decide_eq_true hlt; omega
    obtain ⟨k_1, rfl⟩ : ∃ k2, k_ = k2 + 1 := ⟨k_ - 1, by omega⟩
    obtain ⟨y, hb, hL1⟩ := forN_go hL
    unfold F_laws_toGateS_l1 at hb
    refine cw_skip ?_
    refine cw_seq ?_
    refine cw_block ?_
    refine cw_region ?_
    refine sq 14 rfl rfl (Y_move (v := .slice (some ⟨b, 0, none⟩) a.length a.length) rfl (hf.get 3 1 rfl)) ?_
    refine sq 15 rfl rfl (Y_move (v := .int .i64 (i1 : Int)) rfl (hf.get 4 2 rfl)) ?_
    refine sq 16 rfl rfl (Y_move (v := .slice B a.length c) rfl (hf.get 0 0 rfl)) ?_
    refine sq 17 rfl rfl (Y_move (v := .int .i64 (i1 : Int)) rfl (hf.get 4 2 rfl)) ?_
    obtain ⟨x, hx, hb⟩ := bind_inv hb
    refine sq 18 rfl rfl (Y_index (B := B) (m := a.length) (c := c) (k := .i64) (i := (i1 : Int)) k_sl_22_119 k_sz_119_3 rfl rfl rfl (gi_isSome enc_Gate_len rfl (hS2.rf (i := 0) rfl) hx) (getI_nn hx) (getI_ltI hx rfl)) ?_
    refine sq 19 rfl rfl (Y_loadA (B := B) (i := (i1 : Int).toNat * 3) (cs := (a.flatMap enc_Gate)) (vs := [.int .i64 x.Kind, .int .i64 x.A, .int .i64 x.B]) k_ag_119 k_sz_119_3 rfl rfl (hS2.rf (i := 0) rfl) (enc_Gate_len x) (gi_seg enc_Gate_len hx)) ?_
    obtain ⟨r_1, hc, hb⟩ := bind_inv hb
    refine sc 20 rfl rfl (Yc_func (g := 78) (vs := [.agg #[.int .i64 x.Kind, .int .i64 x.A, .int .i64 x.B]]) k_call_78 rfl (mc rfl mn) (c_laws_toGate x _  (hS2.inn0 [] rfl) hc)) ?_
    rintro _ w_1 ⟨rfl, hd⟩
    have hS3 := hS2.out00 hd
    obtain ⟨x1, hx1, hb⟩ := bind_inv hb
    refine sq 21 rfl rfl (Y_index (B := some ⟨b, 0, none⟩) (m := a.length) (c := a.length) (k := .i64) (i := (i1 : Int)) k_sl_31_109 k_sz_109_3 rfl rfl rfl (gi_isSome enc_Gate_len rfl (hS3.cf (i := 0) rfl) hx1) (getI_nn hx1) (getI_ltI hx1 hl)) ?_
    refine ss0 rfl rfl (Ys_store (i := 0) (s := 3) (B := some ⟨b, 0, none⟩) (T' := 109) (v := .agg #[.int .i64 r_1.Kind, .int .i64 r_1.A, .int .i64 r_1.B]) (vs := [.int .i64 r_1.Kind, .int .i64 r_1.A, .int .i64 r_1.B]) (k := (i1 : Int).toNat * 3) (cs' := ((out.set (i1 : Int).toNat r_1).flatMap enc_Gate)) hS3 k_sz_109_3 rfl rfl rfl rfl rfl rfl rfl (gi_fit0 enc_Gate_len hx1) (gi_set enc_Gate_len hx1 r_1 rfl) rfl) ?_
    rintro _ w_2 ⟨rfl, hS4⟩
    refine rw_nil ?_
    refine cw_region ?_
    refine sq 12 rfl rfl (Y_move (v := .int .i64 (i1 : Int)) rfl (hf.get 4 2 rfl)) ?_
    refine sq 13 rfl rfl (Y_add (k := .i64) (a := (i1 : Int)) (b := 1) rfl rfl rfl) ?_
    refine sq 4 rfl rfl (Y_assign (v := .int .i64 (IntKind.i64.wrap ((i1 : Int) + 1))) rfl rfl) ?_
    refine rw_nil ?_
    obtain rfl := some_inj hb
    exact ⟨k_1, Nat.lt_succ_self _, i1 + 1, (out.set (i1 : Int).toNat r_1), (FF.cons (hf.get 0 0 rfl) (FF.cons (hf.get 3 1 rfl) (FF.cons (congrArg (Value.int .i64) (wr_succ hlt1 hN)) FF.nil))), (set_len _ _ _ hl), (hS4.sel [0] rfl rfl), (by omega), hL1⟩
  · skip
    obtain rfl : k_ = 0 := by have h := of_decide_eq_false hlt; omega
    refine cw_exit rfl ?_
    obtain rfl := some_inj hL
    refine cw_seq ?_
    refine cw_region ?_
    refine sq 22 rfl rfl (Y_move (v := .slice (some ⟨b, 0, none⟩) a.length a.length) rfl (hf.get 3 1 rfl)) ?_
    refine sq 2 rfl rfl (Y_assign (v := .slice (some ⟨b, 0, none⟩) a.length a.length) rfl rfl) ?_
    refine rw_nil ?_
    refine cw_ret ?_
    obtain rfl := some_inj hF1
    exact ret1 Try.results34 (v1 := .slice (some ⟨b, 0, none⟩) a.length a.length) (resAt_tmp rfl) ⟨some ⟨b, 0, none⟩, a.length, (sl_eqv hl), (ST.subR (R' := []) (hS2.sel [0] rfl rfl) (fun _ h => by cases h))⟩

theorem c_laws_toCircuit (a : TCircuit) (B : Option Addr) (c n : Nat) (w0 : World) (hn : a.Gates.length = n) (hS : ST w0 [] w0 [] [⟨B, (a.Gates.flatMap enc_Gate)⟩]) {r_ : TCircuit} (hF : F_laws_toCircuit a = some r_) :
    CV Try.prog 9 #[.agg #[.int .i64 a.Qubits, .slice B n c]] w0 (fun v w' => ∃ (B1 : Option Addr) (c1 : Nat), v = .agg #[.int .i64 r_.Qubits, .slice B1 r_.Gates.length c1] ∧ ST w0 [] w' [⟨B1, 109, (r_.Gates.flatMap enc_Gate), c1 * 3⟩] []) := by
  subst hn
  unfold F_laws_toCircuit at hF
  refine cv_of_cw 12 Try.func9 rfl Try.ntmps9 rfl ?_
  refine cw_seq ?_
  refine cw_region ?_
  refine ss 1 rfl rfl (Ys_box (T := 24) (v := .agg #[.int .i64 a.Qubits, .slice B a.Gates.length c]) (cs := [.int .i64 a.Qubits, .slice B a.Gates.length c]) (m := 2) hS rfl rfl rfl rfl) ?_
  rintro _ w_ ⟨b, rfl, hS1⟩
  refine ss 2 rfl rfl (Ys_alloc (T := 33) (cs := [.int .i64 0, .slice none 0 0]) (m := 2) hS1 k_zero_33 rfl rfl rfl) ?_
  rintro _ w_1 ⟨b1, rfl, hS2⟩
  have hS2 : ST w0 [] _ [⟨some ⟨b, 0, none⟩, 24, [.int .i64 a.Qubits, .slice B a.Gates.length c], 2⟩, ⟨some ⟨b1, 0, none⟩, 33, [.int .i64 0, .slice none 0 0], 2⟩] [⟨B, (a.Gates.flatMap enc_Gate)⟩] := hS2
  refine rw_nil ?_
  refine cw_seq ?_
  refine cw_region ?_
  refine ss 3 rfl rfl (Ys_alloc (T := 33) (cs := [.int .i64 0, .slice none 0 0]) (m := 2) hS2 k_zero_33 rfl rfl rfl) ?_
  rintro _ w_2 ⟨b2, rfl, hS3⟩
  have hS3 : ST w0 [] _ [⟨some ⟨b, 0, none⟩, 24, [.int .i64 a.Qubits, .slice B a.Gates.length c], 2⟩, ⟨some ⟨b1, 0, none⟩, 33, [.int .i64 0, .slice none 0 0], 2⟩, ⟨some ⟨b2, 0, none⟩, 33, [.int .i64 0, .slice none 0 0], 2⟩] [⟨B, (a.Gates.flatMap enc_Gate)⟩] := hS3
  refine rw_nil ?_
  refine cw_seq ?_
  refine cw_region ?_
  refine sq 4 rfl rfl (Y_fieldAddr (B := some ⟨b, 0, none⟩) (i := 0) (s := 0) k_fd_24_0_0_3 k_sz_3_1 rfl rfl) ?_
  refine sq 5 rfl rfl (Y_load1 (B := some ⟨b, 0, none⟩) (i := 0) (cs := [.int .i64 a.Qubits, .slice B a.Gates.length c]) (v := .int .i64 a.Qubits) k_sc_3 rfl rfl (hS3.cf (i := 0) rfl) rfl) ?_
  refine sq 6 rfl rfl (Y_fieldAddr (B := some ⟨b2, 0, none⟩) (i := 0) (s := 0) k_fd_33_0_0_3 k_sz_3_1 rfl rfl) ?_
  refine ss0 rfl rfl (Ys_store (i := 2) (s := 1) (B := some ⟨b2, 0, none⟩) (T' := 33) (v := .int .i64 a.Qubits) (vs := [.int .i64 a.Qubits]) (k := 0) (cs' := [.int .i64 a.Qubits, .slice none 0 0]) hS3 k_sz_3_1 rfl rfl rfl rfl rfl rfl rfl (Nat.le_of_ble_eq_true rfl) rfl rfl) ?_
  rintro _ w_3 ⟨rfl, hS4⟩
  have hS4 : ST w0 [] _ [⟨some ⟨b, 0, none⟩, 24, [.int .i64 a.Qubits, .slice B a.Gates.length c], 2⟩, ⟨some ⟨b1, 0, none⟩, 33, [.int .i64 0, .slice none 0 0], 2⟩, ⟨some ⟨b2, 0, none⟩, 33, [.int .i64 a.Qubits, .slice none 0 0], 2⟩] [⟨B, (a.Gates.flatMap enc_Gate)⟩] := hS4
  refine rw_nil ?_
  refine cw_seq ?_
  refine cw_region ?_
  refine sq 7 rfl rfl (Y_fieldAddr (B := some ⟨b, 0, none⟩) (i := 0) (s := 0) k_fd_24_1_1_22 k_sz_22_1 rfl rfl) ?_
  refine sq 8 rfl rfl (Y_load1 (B := some ⟨b, 0, none⟩) (i := 1) (cs := [.int .i64 a.Qubits, .slice B a.Gates.length c]) (v := .slice B a.Gates.length c) k_sc_22 rfl rfl (hS4.cf (i := 0) rfl) rfl) ?_
  obtain ⟨r_1, hc, hF⟩ := bind_inv hF
  refine sc 9 rfl rfl (Yc_func (g := 34) (vs := [.slice B a.Gates.length c]) k_call_34 rfl (mc rfl mn) (c_laws_toGateS a.Gates B c a.Gates.length _ rfl (hS4.inn0 [(true, 0)] rfl) hc)) ?_
  rintro _ w_4 ⟨B2, c2, rfl, hd⟩
  have hS5 := hS4.out0 hd
  have hS5 : ST w0 [] _ [⟨some ⟨b, 0, none⟩, 24, [.int .i64 a.Qubits, .slice B a.Gates.length c], 2⟩, ⟨some ⟨b1, 0, none⟩, 33, [.int .i64 0, .slice none 0 0], 2⟩, ⟨some ⟨b2, 0, none⟩, 33, [.int .i64 a.Qubits, .slice none 0 0], 2⟩, ⟨B2, 109, (r_1.flatMap enc_Gate), c2 * 3⟩] [⟨B, (a.Gates.flatMap enc_Gate)⟩] := hS5
  refine sq 10 rfl rfl (Y_fieldAddr (B := some ⟨b2, 0, none⟩) (i := 0) (s := 0) k_fd_33_1_1_31 k_sz_31_1 rfl rfl) ?_
  refine ss0 rfl rfl (Ys_store (i := 2) (s := 1) (B := some ⟨b2, 0, none⟩) (T' := 33) (v := .slice B2 r_1.length c2) (vs := [.slice B2 r_1.length c2]) (k := 1) (cs' := [.int .i64 a.Qubits, .slice B2 r_1.length c2]) hS5 k_sz_31_1 rfl rfl rfl rfl rfl rfl rfl (Nat.le_of_ble_eq_true rfl) rfl rfl) ?_
  rintro _ w_5 ⟨rfl, hS6⟩
  have hS6 : ST w0 [] _ [⟨some ⟨b, 0, none⟩, 24, [.int .i64 a.Qubits, .slice B a.Gates.length c], 2⟩, ⟨some ⟨b1, 0, none⟩, 33, [.int .i64 0, .slice none 0 0], 2⟩, ⟨some ⟨b2, 0, none⟩, 33, [.int .i64 a.Qubits, .slice B2 r_1.length c2], 2⟩, ⟨B2, 109, (r_1.flatMap enc_Gate), c2 * 3⟩] [⟨B, (a.Gates.flatMap enc_Gate)⟩] := hS6
  refine rw_nil ?_
  refine cw_seq ?_
  refine cw_region ?_
  refine sq 11 rfl rfl (Y_loadA (B := some ⟨b2, 0, none⟩) (i := 0) (cs := [.int .i64 a.Qubits, .slice B2 r_1.length c2]) (vs := [.int .i64 a.Qubits, .slice B2 r_1.length c2]) k_ag_33 k_sz_33_2 rfl rfl (hS6.cf (i := 2) rfl) rfl rfl) ?_
  refine ss0 rfl rfl (Ys_store (i := 1) (s := 2) (B := some ⟨b1, 0, none⟩) (T' := 33) (v := .agg #[.int .i64 a.Qubits, .slice B2 r_1.length c2]) (vs := [.int .i64 a.Qubits, .slice B2 r_1.length c2]) (k := 0) (cs' := [.int .i64 a.Qubits, .slice B2 r_1.length c2]) hS6 k_sz_33_2 rfl rfl rfl rfl rfl rfl rfl (Nat.le_of_ble_eq_true rfl) rfl rfl) ?_
  rintro _ w_6 ⟨rfl, hS7⟩
  have hS7 : ST w0 [] _ [⟨some ⟨b, 0, none⟩, 24, [.int .i64 a.Qubits, .slice B a.Gates.length c], 2⟩, ⟨some ⟨b1, 0, none⟩, 33, [.int .i64 a.Qubits, .slice B2 r_1.length c2], 2⟩, ⟨some ⟨b2, 0, none⟩, 33, [.int .i64 a.Qubits, .slice B2 r_1.length c2], 2⟩, ⟨B2, 109, (r_1.flatMap enc_Gate), c2 * 3⟩] [⟨B, (a.Gates.flatMap enc_Gate)⟩] := hS7
  refine rw_nil ?_
  refine cw_ret ?_
  obtain rfl := some_inj hF
  exact ret1 Try.results9 (v1 := .agg #[.int .i64 a.Qubits, .slice B2 r_1.length c2]) (resAt_cellA (B := some ⟨b1, 0, none⟩) (i := 0) (cs := [.int .i64 a.Qubits, .slice B2 r_1.length c2]) (vs := [.int .i64 a.Qubits, .slice B2 r_1.length c2]) rfl k_ag_33 k_sz_33_2 (hS7.cf (i := 1) rfl) rfl rfl) ⟨B2, c2, rfl, (ST.subR (R' := []) (hS7.sel [3] rfl rfl) (fun _ h => by cases h))⟩

theorem c_impl_within (n : Int) (low : Int) (high : Int)  (w0 : World)  (hS : ST w0 [] w0 [] []) {r_ : Bool} (hF : F_impl_within n low high = some r_) :
    CV Try.prog 36 #[.int .i64 n, .int .i64 low, .int .i64 high] w0 (fun v w' => v = .bool r_ ∧ ST w0 [] w' [] []) := by
  unfold F_impl_within at hF
  refine cv_of_cw 15 Try.func36 rfl Try.ntmps36 rfl ?_
  refine cw_seq ?_
  refine cw_region ?_
  refine sq 6 rfl rfl (Y_assign (v := .bool false) rfl rfl) ?_
  refine rw_nil ?_
  refine cw_seq ?_
  refine cw_region ?_
  refine sq 7 rfl rfl (Y_move (v := .int .i64 low) rfl rfl) ?_
  refine sq 8 rfl rfl (Y_move (v := .int .i64 n) rfl rfl) ?_
  refine sq 9 rfl rfl (Y_le (k := .i64) (a := low) (b := n) rfl rfl rfl) ?_
  refine sq 10 rfl rfl (Y_move (v := .bool (decide (low ≤ n))) rfl rfl) ?_
  refine sgq 11 (B := (decide (low ≤ n))) (v := .int .i64 n) rfl rfl (wt_t (gd_of (t := 10) (by kernel_rfl) rfl)) (fun hg => (Y_move (v := .int .i64 n) rfl rfl)) ?_
  refine sgq 12 (B := (decide (low ≤ n))) (v := .int .i64 high) rfl rfl (wt_t (gd_of (t := 10) (by kernel_rfl) rfl)) (fun hg1 => (Y_move (v := .int .i64 high) rfl rfl)) ?_
  refine sgq 13 (B := (decide (low ≤ n))) (v := .bool (decide (n ≤ high))) rfl rfl (wt_t (gd_of (t := 10) (by kernel_rfl) rfl)) (fun hg2 => (Y_le (k := .i64) (a := n) (b := high) rfl (gv_of (B := (decide (low ≤ n))) (v := .int .i64 n) hg2) (gv_of (B := (decide (low ≤ n))) (v := .int .i64 high) hg2))) ?_
  refine sq 14 rfl rfl (Y_and (b := (decide (low ≤ n))) (z := (decide (n ≤ high))) rfl rfl rfl rfl) ?_
  refine sq 6 rfl rfl (Y_assign (v := .bool ((decide (low ≤ n)) && (decide (n ≤ high)))) rfl rfl) ?_
  refine rw_nil ?_
  refine cw_ret ?_
  obtain rfl := some_inj hF
  exact ret1 Try.results36 (v1 := .bool ((decide (low ≤ n)) && (decide (n ≤ high)))) (resAt_tmp rfl) ⟨rfl, (ST.subR (R' := []) (hS.sel [] rfl rfl) (fun _ h => by cases h))⟩

theorem c_slices_IndexFunc_impl_Gate_impl_Gate (s : List TGate) (f_ : TGate → Option (Bool)) (B : Option Addr) (c n : Nat) (kf : Nat) (caps : Array Value) (Rf : List Ro) (w0 : World) (hn : s.length = n) (hk : callB Try.prog kf = true) (hp : ∀ (w : World), ST w [] w [] Rf → ∀ (x : TGate) (y : Bool), f_ x = some y → CV Try.prog kf ((.agg #[.int .i64 x.Kind, .int .i64 x.A, .int .i64 x.B]) :: caps.toList).toArray w (fun v w' => v = .bool y ∧ ST w [] w' [] [])) (hS : ST w0 [] w0 [] (⟨B, (s.flatMap enc_Gate)⟩ :: Rf)) {r_ : Int} (hF : F_slices_IndexFunc_impl_Gate_impl_Gate s f_ = some r_) :
    CV Try.prog 120 #[.slice B n c, .func (.func kf) #[] caps] w0 (fun v w' => v = .int .i64 r_ ∧ ST w0 [] w' [] []) := by
  subst hn
  unfold F_slices_IndexFunc_impl_Gate_impl_Gate at hF
  refine cv_of_cw 19 Try.func120 rfl Try.ntmps120 rfl ?_
  refine cw_seq ?_
  refine cw_region ?_
  refine sq 4 rfl rfl (Y_assign (v := .int .i64 0) rfl rfl) ?_
  refine rw_nil ?_
  refine cw_seq ?_
  refine cw_seq ?_
  refine cw_region ?_
  refine sq 6 rfl rfl (Y_move (v := .slice B s.length c) rfl rfl) ?_
  refine sq 7 rfl rfl (Y_len (B := B) (m := s.length) (c := c) k_sl_31_109 rfl rfl) ?_
  refine sq 8 rfl rfl (Y_move (v := .int .i64 0) rfl rfl) ?_
  refine rw_nil ?_
  obtain ⟨hN, hF⟩ := chk_inv hF
  obtain ⟨z, hz, hF1⟩ := bind_inv hF
  refine cw_block ?_
  refine cw_loop (fun k f w => ∃ (i : Nat), FF f [(0, .slice B s.length c), (1, .func (.func kf) #[] caps), (7, .int .i64 (s.length : Int)), (8, .int .i64 (i : Int))] ∧ ST w0 [] w [] (⟨B, (s.flatMap enc_Gate)⟩ :: Rf) ∧ i + k = s.length ∧ forX (F_slices_IndexFunc_impl_Gate_impl_Gate_l1 s f_) k i () = some z) s.length ⟨0, (FF.cons rfl (FF.cons rfl (FF.cons rfl (FF.cons rfl FF.nil)))), (hS.sel [] rfl rfl), Nat.zero_add _, hz⟩ ?_
  rintro k_ f w ⟨i, hf, hS1, hik, hL⟩
  refine cw_seq ?_
  refine cw_region ?_
  refine sq 9 rfl rfl (Y_lt (k := .i64) (a := (i : Int)) (b := (s.length : Int)) rfl (hf.get 8 3 rfl) (hf.get 7 2 rfl)) ?_
  refine rw_nil ?_
  refine cw_seq ?_
  refine cw_cond (b := (decide ((i : Int) < (s.length : Int)))) rfl (fun hlt => ?_) (fun hlt => ?_)
  · skip
    have hlt1 : i < s.length := by have h := of_decide_eq_true hlt; omega
    obtain ⟨k_1, rfl⟩ : ∃ k2, k_ = k2 + 1 := ⟨k_ - 1, by omega⟩
    obtain ⟨y1, hb, hL1⟩ := forX_go hL
    unfold F_slices_IndexFunc_impl_Gate_impl_Gate_l1 at hb
    refine cw_skip ?_
    refine cw_seq ?_
    refine cw_block ?_
    refine cw_seq ?_
    refine cw_region ?_
    refine sq 10 rfl rfl (Y_move (v := .int .i64 (i : Int)) rfl (hf.get 8 3 rfl)) ?_
    refine sq 5 rfl rfl (Y_assign (v := .int .i64 (i : Int)) rfl rfl) ?_
    refine rw_nil ?_
    refine cw_seq ?_
    refine cw_region ?_
    refine sq 11 rfl rfl (Y_move (v := .func (.func kf) #[] caps) rfl (hf.get 1 1 rfl)) ?_
    refine sq 12 rfl rfl (Y_move (v := .slice B s.length c) rfl (hf.get 0 0 rfl)) ?_
    refine sq 13 rfl rfl (Y_move (v := .int .i64 (i : Int)) rfl rfl) ?_
    obtain ⟨x1, hx, hb⟩ := bind_inv hb
    refine sq 14 rfl rfl (Y_index (B := B) (m := s.length) (c := c) (k := .i64) (i := (i : Int)) k_sl_31_109 k_sz_109_3 rfl rfl rfl (gi_isSome enc_Gate_len rfl (hS1.rf (i := 0) rfl) hx) (getI_nn hx) (getI_ltI hx rfl)) ?_
    refine sq 15 rfl rfl (Y_loadA (B := B) (i := (i : Int).toNat * 3) (cs := (s.flatMap enc_Gate)) (vs := [.int .i64 x1.Kind, .int .i64 x1.A, .int .i64 x1.B]) k_ag_109 k_sz_109_3 rfl rfl (hS1.rf (i := 0) rfl) (enc_Gate_len x1) (gi_seg enc_Gate_len hx)) ?_
    obtain ⟨r_1, hc, hb⟩ := bind_inv hb
    refine sc 16 rfl rfl (Yc_clos (g := kf) (vs := (.agg #[.int .i64 x1.Kind, .int .i64 x1.A, .int .i64 x1.B]) :: caps.toList) hk rfl rfl (clo_args (mc rfl mn)) (hp _ (hS1.innS (fun _ h => List.mem_of_mem_drop (i := 1) h)) x1 r_1 hc)) ?_
    rintro _ w_ ⟨rfl, hd⟩
    have hS2 := hS1.out00 hd
    refine rw_nil ?_
    refine cw_cond (b := r_1) rfl (fun hb1 => ?_) (fun hb1 => ?_)
    · skip
      have hF2 := ct hb hb1
      refine cw_seq ?_
      refine cw_region ?_
      refine sq 17 rfl rfl (Y_move (v := .int .i64 (i : Int)) rfl rfl) ?_
      refine sq 4 rfl rfl (Y_assign (v := .int .i64 (i : Int)) rfl rfl) ?_
      refine rw_nil ?_
      refine cw_ret ?_
      obtain rfl := some_inj hF2
      obtain rfl := some_inj hL1
      obtain rfl := some_inj hF1
      exact ret1 Try.results120 (v1 := .int .i64 (i : Int)) (resAt_tmp rfl) ⟨rfl, (ST.subR (R' := []) (hS2.sel [] rfl rfl) (fun _ h => by cases h))⟩
    · skip
      have hF3 := cf' hb hb1
      refine cw_skip ?_
      refine cw_region ?_
      refine sq 18 rfl rfl (Y_add (k := .i64) (a := (i : Int)) (b := 1) rfl (hf.get 8 3 rfl) rfl) ?_
      refine sq 8 rfl rfl (Y_move (v := .int .i64 (IntKind.i64.wrap ((i : Int) + 1))) rfl rfl) ?_
      refine rw_nil ?_
      obtain rfl := some_inj hF3
      exact ⟨k_1, Nat.lt_succ_self _, i + 1, (FF.cons (hf.get 0 0 rfl) (FF.cons (hf.get 1 1 rfl) (FF.cons (hf.get 7 2 rfl) (FF.cons (congrArg (Value.int .i64) (wr_succ hlt1 hN)) FF.nil)))), (hS2.sel [] rfl rfl), (by omega), hL1⟩
  · skip
    obtain rfl : k_ = 0 := by have h := of_decide_eq_false hlt; omega
    refine cw_exit rfl ?_
    obtain rfl := some_inj hL
    refine cw_seq ?_
    refine cw_region ?_
    refine sq 4 rfl rfl (Y_assign (v := .int .i64 (-1)) rfl rfl) ?_
    refine rw_nil ?_
    refine cw_ret ?_
    obtain rfl := some_inj hF1
    exact ret1 Try.results120 (v1 := .int .i64 (-1)) (resAt_tmp rfl) ⟨rfl, (ST.subR (R' := []) (hS1.sel [] rfl rfl) (fun _ h => by cases h))⟩

theorem c_slices_ContainsFunc_impl_Gate_impl_Gate (s : List TGate) (f_ : TGate → Option (Bool)) (B : Option Addr) (c n : Nat) (kf : Nat) (caps : Array Value) (Rf : List Ro) (w0 : World) (hn : s.length = n) (hk : callB Try.prog kf = true) (hp : ∀ (w : World), ST w [] w [] Rf → ∀ (x : TGate) (y : Bool), f_ x = some y → CV Try.prog kf ((.agg #[.int .i64 x.Kind, .int .i64 x.A, .int .i64 x.B]) :: caps.toList).toArray w (fun v w' => v = .bool y ∧ ST w [] w' [] [])) (hS : ST w0 [] w0 [] (⟨B, (s.flatMap enc_Gate)⟩ :: Rf)) {r_ : Bool} (hF : F_slices_ContainsFunc_impl_Gate_impl_Gate s f_ = some r_) :
    CV Try.prog 79 #[.slice B n c, .func (.func kf) #[] caps] w0 (fun v w' => v = .bool r_ ∧ ST w0 [] w' [] []) := by
  subst hn
  unfold F_slices_ContainsFunc_impl_Gate_impl_Gate at hF
  refine cv_of_cw 9 Try.func79 rfl Try.ntmps79 rfl ?_
  refine cw_seq ?_
  refine cw_region ?_
  refine sq 4 rfl rfl (Y_assign (v := .bool false) rfl rfl) ?_
  refine rw_nil ?_
  refine cw_seq ?_
  refine cw_region ?_
  refine sq 5 rfl rfl (Y_move (v := .slice B s.length c) rfl rfl) ?_
  refine sq 6 rfl rfl (Y_move (v := .func (.func kf) #[] caps) rfl rfl) ?_
  obtain ⟨r_1, hc, hF⟩ := bind_inv hF
  refine sc 7 rfl rfl (Yc_func (g := 120) (vs := [.slice B s.length c, .func (.func kf) #[] caps]) k_call_120 rfl (mc rfl (mc rfl mn)) (c_slices_IndexFunc_impl_Gate_impl_Gate s f_ B c s.length kf caps Rf _ rfl hk hp (hS.innS (subc (mem_at (i := 0) rfl) (fun _ h => List.mem_of_mem_drop (i := 1) h))) hc)) ?_
  rintro _ w_ ⟨rfl, hd⟩
  have hS1 := hS.out00 hd
  refine sq 8 rfl rfl (Y_ge (k := .i64) (a := r_1) (b := 0) rfl rfl rfl) ?_
  refine sq 4 rfl rfl (Y_assign (v := .bool (decide (0 ≤ r_1))) rfl rfl) ?_
  refine rw_nil ?_
  refine cw_ret ?_
  obtain rfl := some_inj hF
  exact ret1 Try.results79 (v1 := .bool (decide (0 ≤ r_1))) (resAt_tmp rfl) ⟨rfl, (ST.subR (R' := []) (hS1.sel [] rfl rfl) (fun _ h => by cases h))⟩

theorem c_impl_isTwo (kind : Int)  (w0 : World)  (hS : ST w0 [] w0 [] []) {r_ : Bool} (hF : F_impl_isTwo kind = some r_) :
    CV Try.prog 121 #[.int .i64 kind] w0 (fun v w' => v = .bool r_ ∧ ST w0 [] w' [] []) := by
  unfold F_impl_isTwo at hF
  refine cv_of_cw 5 Try.func121 rfl Try.ntmps121 rfl ?_
  refine cw_seq ?_
  refine cw_region ?_
  refine sq 2 rfl rfl (Y_assign (v := .bool false) rfl rfl) ?_
  refine rw_nil ?_
  refine cw_seq ?_
  refine cw_region ?_
  refine sq 3 rfl rfl (Y_move (v := .int .i64 kind) rfl rfl) ?_
  obtain ⟨r_1, hc, hF⟩ := bind_inv hF
  refine sc 4 rfl rfl (Yc_func (g := 36) (vs := [.int .i64 kind, .int .i64 9, .int .i64 11]) k_call_36 rfl (mc rfl (mc rfl (mc rfl mn))) (c_impl_within kind 9 11 _  (hS.inn0 [] rfl) hc)) ?_
  rintro _ w_ ⟨rfl, hd⟩
  have hS1 := hS.out00 hd
  refine sq 2 rfl rfl (Y_assign (v := .bool r_1) rfl rfl) ?_
  refine rw_nil ?_
  refine cw_ret ?_
  obtain rfl := some_inj hF
  exact ret1 Try.results121 (v1 := .bool r_1) (resAt_tmp rfl) ⟨rfl, (ST.subR (R' := []) (hS1.sel [] rfl rfl) (fun _ h => by cases h))⟩

theorem c_impl_IsValidGate (n : Int) (g : TGate)  (w0 : World)  (hS : ST w0 [] w0 [] []) {r_ : Bool} (hF : F_impl_IsValidGate n g = some r_) :
    CV Try.prog 81 #[.int .i64 n, .agg #[.int .i64 g.Kind, .int .i64 g.A, .int .i64 g.B]] w0 (fun v w' => v = .bool r_ ∧ ST w0 [] w' [] []) := by
  unfold F_impl_IsValidGate at hF
  refine cv_of_cw 60 Try.func81 rfl Try.ntmps81 rfl ?_
  refine cw_seq ?_
  refine cw_region ?_
  refine ss 3 rfl rfl (Ys_box (T := 109) (v := .agg #[.int .i64 g.Kind, .int .i64 g.A, .int .i64 g.B]) (cs := [.int .i64 g.Kind, .int .i64 g.A, .int .i64 g.B]) (m := 3) hS rfl rfl rfl rfl) ?_
  rintro _ w_ ⟨b, rfl, hS1⟩
  refine sq 4 rfl rfl (Y_assign (v := .bool false) rfl rfl) ?_
  refine rw_nil ?_
  refine cw_seq ?_
  refine cw_block ?_
  refine cw_seq ?_
  refine cw_region ?_
  refine sq 6 rfl rfl (Y_move (v := .int .i64 n) rfl rfl) ?_
  obtain ⟨r_1, hc, hF⟩ := bind_inv hF
  refine sc 7 rfl rfl (Yc_func (g := 36) (vs := [.int .i64 n, .int .i64 1, .int .i64 5]) k_call_36 rfl (mc rfl (mc rfl (mc rfl mn))) (c_impl_within n 1 5 _  (hS1.inn0 [] rfl) hc)) ?_
  rintro _ w_1 ⟨rfl, hd⟩
  have hS2 := hS1.out00 hd
  refine sq 8 rfl rfl (Y_not (p := r_1) rfl rfl) ?_
  refine sq 9 rfl rfl (Y_move (v := .bool (!r_1)) rfl rfl) ?_
  refine sgq 10 (B := (!(!r_1))) (v := pt (some ⟨b, 0, none⟩) 0) rfl rfl (wt_f (gd_of (t := 9) (by kernel_rfl) rfl)) (fun hg => (Y_fieldAddr (B := some ⟨b, 0, none⟩) (i := 0) (s := 0) k_fd_109_0_0_3 k_sz_3_1 rfl rfl)) ?_
  refine sgq 11 (B := (!(!r_1))) (v := .int .i64 g.Kind) rfl rfl (wt_f (gd_of (t := 9) (by kernel_rfl) rfl)) (fun hg1 => (Y_load1 (B := some ⟨b, 0, none⟩) (i := 0) (cs := [.int .i64 g.Kind, .int .i64 g.A, .int .i64 g.B]) (v := .int .i64 g.Kind) k_sc_3 rfl (gv_of (B := (!(!r_1))) (v := pt (some ⟨b, 0, none⟩) 0) hg1) (hS2.cf (i := 0) rfl) rfl)) ?_
  obtain ⟨r_2, hc1, hF⟩ := bind_inv hF
  refine sgc 12 (B := (!(!r_1))) (v := .bool r_2) (F := hS2.fn) rfl rfl (wt_f (gd_of (t := 9) (by kernel_rfl) rfl)) hS2 (fun hg2 => (Yc_func (g := 36) (vs := [.int .i64 g.Kind, .int .i64 1, .int .i64 12]) k_call_36 rfl (mc (gv_of (B := (!(!r_1))) (v := .int .i64 g.Kind) hg2) (mc rfl (mc rfl mn))) (CV.mono (c_impl_within g.Kind 1 12 _  (hS2.inn0 [] rfl) (gb_inv hc1 hg2)) (by rintro _ _ ⟨rfl, h⟩; exact ⟨rfl, hS2.out00 h⟩)))) ?_
  rintro w_2 hS3
  have hS3 : ST _ _ w_2 _ _ := hS3
  refine sgq 13 (B := (!(!r_1))) (v := .bool (!r_2)) rfl rfl (wt_f (gd_of (t := 9) (by kernel_rfl) rfl)) (fun hg3 => (Y_not (p := r_2) rfl (gv_of (B := (!(!r_1))) (v := .bool r_2) hg3))) ?_
  refine sq 14 rfl rfl (Y_or (b := (!r_1)) (z := (!r_2)) rfl rfl rfl rfl) ?_
  refine sq 5 rfl rfl (Y_assign (v := .bool ((!r_1) || (!r_2))) rfl rfl) ?_
  refine rw_nil ?_
  refine cw_cond (b := ((!r_1) || (!r_2))) rfl (fun hb => ?_) (fun hb => ?_)
  · skip
    have hF1 := ct hF hb
    refine cw_seq ?_
    refine cw_region ?_
    refine sq 4 rfl rfl (Y_assign (v := .bool false) rfl rfl) ?_
    refine rw_nil ?_
    refine cw_ret ?_
    obtain rfl := some_inj hF1
    exact ret1 Try.results81 (v1 := .bool false) (resAt_tmp rfl) ⟨rfl, (ST.subR (R' := []) (hS3.sel [] rfl rfl) (fun _ h => by cases h))⟩
  · skip
    have hF2 := cf' hF hb
    refine cw_seq ?_
    refine cw_region ?_
    refine sq 16 rfl rfl (Y_fieldAddr (B := some ⟨b, 0, none⟩) (i := 0) (s := 0) k_fd_109_0_0_3 k_sz_3_1 rfl rfl) ?_
    refine sq 17 rfl rfl (Y_load1 (B := some ⟨b, 0, none⟩) (i := 0) (cs := [.int .i64 g.Kind, .int .i64 g.A, .int .i64 g.B]) (v := .int .i64 g.Kind) k_sc_3 rfl rfl (hS3.cf (i := 0) rfl) rfl) ?_
    refine sq 18 rfl rfl (Y_eq (k := .i64) (a := g.Kind) (b := 12) rfl rfl rfl) ?_
    refine sq 15 rfl rfl (Y_assign (v := .bool (g.Kind == 12)) rfl rfl) ?_
    refine rw_nil ?_
    refine cw_cond (b := (g.Kind == 12)) rfl (fun hb1 => ?_) (fun hb1 => ?_)
    · skip
      have hF3 := ct hF2 hb1
      refine cw_seq ?_
      refine cw_region ?_
      refine sq 19 rfl rfl (Y_fieldAddr (B := some ⟨b, 0, none⟩) (i := 0) (s := 0) k_fd_109_1_1_3 k_sz_3_1 rfl rfl) ?_
      refine sq 20 rfl rfl (Y_load1 (B := some ⟨b, 0, none⟩) (i := 1) (cs := [.int .i64 g.Kind, .int .i64 g.A, .int .i64 g.B]) (v := .int .i64 g.A) k_sc_3 rfl rfl (hS3.cf (i := 0) rfl) rfl) ?_
      refine sq 21 rfl rfl (Y_eq (k := .i64) (a := g.A) (b := 0) rfl rfl rfl) ?_
      refine sq 22 rfl rfl (Y_move (v := .bool (g.A == 0)) rfl rfl) ?_
      refine sgq 23 (B := (g.A == 0)) (v := pt (some ⟨b, 0, none⟩) 2) rfl rfl (wt_t (gd_of (t := 22) (by kernel_rfl) rfl)) (fun hg4 => (Y_fieldAddr (B := some ⟨b, 0, none⟩) (i := 0) (s := 0) k_fd_109_2_2_3 k_sz_3_1 rfl rfl)) ?_
      refine sgq 24 (B := (g.A == 0)) (v := .int .i64 g.B) rfl rfl (wt_t (gd_of (t := 22) (by kernel_rfl) rfl)) (fun hg5 => (Y_load1 (B := some ⟨b, 0, none⟩) (i := 2) (cs := [.int .i64 g.Kind, .int .i64 g.A, .int .i64 g.B]) (v := .int .i64 g.B) k_sc_3 rfl (gv_of (B := (g.A == 0)) (v := pt (some ⟨b, 0, none⟩) 2) hg5) (hS3.cf (i := 0) rfl) rfl)) ?_
      refine sgq 25 (B := (g.A == 0)) (v := .bool (g.B == 0)) rfl rfl (wt_t (gd_of (t := 22) (by kernel_rfl) rfl)) (fun hg6 => (Y_eq (k := .i64) (a := g.B) (b := 0) rfl (gv_of (B := (g.A == 0)) (v := .int .i64 g.B) hg6) rfl)) ?_
      refine sq 26 rfl rfl (Y_and (b := (g.A == 0)) (z := (g.B == 0)) rfl rfl rfl rfl) ?_
      refine sq 4 rfl rfl (Y_assign (v := .bool ((g.A == 0) && (g.B == 0))) rfl rfl) ?_
      refine rw_nil ?_
      refine cw_ret ?_
      obtain rfl := some_inj hF3
      exact ret1 Try.results81 (v1 := .bool ((g.A == 0) && (g.B == 0))) (resAt_tmp rfl) ⟨rfl, (ST.subR (R' := []) (hS3.sel [] rfl rfl) (fun _ h => by cases h))⟩
    · skip
      have hF4 := cf' hF2 hb1
      refine cw_seq ?_
      refine cw_region ?_
      refine sq 28 rfl rfl (Y_fieldAddr (B := some ⟨b, 0, none⟩) (i := 0) (s := 0) k_fd_109_0_0_3 k_sz_3_1 rfl rfl) ?_
      refine sq 29 rfl rfl (Y_load1 (B := some ⟨b, 0, none⟩) (i := 0) (cs := [.int .i64 g.Kind, .int .i64 g.A, .int .i64 g.B]) (v := .int .i64 g.Kind) k_sc_3 rfl rfl (hS3.cf (i := 0) rfl) rfl) ?_
      obtain ⟨r_3, hc2, hF4⟩ := bind_inv hF4
      refine sc 30 rfl rfl (Yc_func (g := 121) (vs := [.int .i64 g.Kind]) k_call_121 rfl (mc rfl mn) (c_impl_isTwo g.Kind _  (hS3.inn0 [] rfl) hc2)) ?_
      rintro _ w_3 ⟨rfl, hd1⟩
      have hS4 := hS3.out00 hd1
      refine sq 27 rfl rfl (Y_assign (v := .bool r_3) rfl rfl) ?_
      refine rw_nil ?_
      refine cw_cond (b := r_3) rfl (fun hb2 => ?_) (fun hb2 => ?_)
      · skip
        have hF5 := ct hF4 hb2
        refine cw_seq ?_
        refine cw_region ?_
        refine sq 31 rfl rfl (Y_fieldAddr (B := some ⟨b, 0, none⟩) (i := 0) (s := 0) k_fd_109_1_1_3 k_sz_3_1 rfl rfl) ?_
        refine sq 32 rfl rfl (Y_load1 (B := some ⟨b, 0, none⟩) (i := 1) (cs := [.int .i64 g.Kind, .int .i64 g.A, .int .i64 g.B]) (v := .int .i64 g.A) k_sc_3 rfl rfl (hS4.cf (i := 0) rfl) rfl) ?_
        refine sq 33 rfl rfl (Y_move (v := .int .i64 n) rfl rfl) ?_
        refine sq 34 rfl rfl (Y_sub (k := .i64) (a := n) (b := 1) rfl rfl rfl) ?_
        obtain ⟨r_4, hc3, hF5⟩ := bind_inv hF5
        refine sc 35 rfl rfl (Yc_func (g := 36) (vs := [.int .i64 g.A, .int .i64 0, .int .i64 (IntKind.i64.wrap (n - 1))]) k_call_36 rfl (mc rfl (mc rfl (mc rfl mn))) (c_impl_within g.A 0 (IntKind.i64.wrap (n - 1)) _  (hS4.inn0 [] rfl) hc3)) ?_
        rintro _ w_4 ⟨rfl, hd2⟩
        have hS5 := hS4.out00 hd2
        refine sq 36 rfl rfl (Y_move (v := .bool r_4) rfl rfl) ?_
        refine sgq 37 (B := r_4) (v := pt (some ⟨b, 0, none⟩) 2) rfl rfl (wt_t (gd_of (t := 36) (by kernel_rfl) rfl)) (fun hg7 => (Y_fieldAddr (B := some ⟨b, 0, none⟩) (i := 0) (s := 0) k_fd_109_2_2_3 k_sz_3_1 rfl rfl)) ?_
        refine sgq 38 (B := r_4) (v := .int .i64 g.B) rfl rfl (wt_t (gd_of (t := 36) (by kernel_rfl) rfl)) (fun hg8 => (Y_load1 (B := some ⟨b, 0, none⟩) (i := 2) (cs := [.int .i64 g.Kind, .int .i64 g.A, .int .i64 g.B]) (v := .int .i64 g.B) k_sc_3 rfl (gv_of (B := r_4) (v := pt (some ⟨b, 0, none⟩) 2) hg8) (hS5.cf (i := 0) rfl) rfl)) ?_
        refine sgq 39 (B := r_4) (v := .int .i64 n) rfl rfl (wt_t (gd_of (t := 36) (by kernel_rfl) rfl)) (fun hg9 => (Y_move (v := .int .i64 n) rfl rfl)) ?_
        refine sgq 40 (B := r_4) (v := .int .i64 (IntKind.i64.wrap (n - 1))) rfl rfl (wt_t (gd_of (t := 36) (by kernel_rfl) rfl)) (fun hg10 => (Y_sub (k := .i64) (a := n) (b := 1) rfl (gv_of (B := r_4) (v := .int .i64 n) hg10) rfl)) ?_
        obtain ⟨r_5, hc4, hF5⟩ := bind_inv hF5
        refine sgc 41 (B := r_4) (v := .bool r_5) (F := hS5.fn) rfl rfl (wt_t (gd_of (t := 36) (by kernel_rfl) rfl)) hS5 (fun hg11 => (Yc_func (g := 36) (vs := [.int .i64 g.B, .int .i64 0, .int .i64 (IntKind.i64.wrap (n - 1))]) k_call_36 rfl (mc (gv_of (B := r_4) (v := .int .i64 g.B) hg11) (mc rfl (mc (gv_of (B := r_4) (v := .int .i64 (IntKind.i64.wrap (n - 1))) hg11) mn))) (CV.mono (c_impl_within g.B 0 (IntKind.i64.wrap (n - 1)) _  (hS5.inn0 [] rfl) (gb_inv hc4 hg11)) (by rintro _ _ ⟨rfl, h⟩; exact ⟨rfl, hS5.out00 h⟩)))) ?_
        rintro w_5 hS6
        have hS6 : ST _ _ w_5 _ _ := hS6
        refine sq 42 rfl rfl (Y_and (b := r_4) (z := r_5) rfl rfl rfl rfl) ?_
        refine sq 43 rfl rfl (Y_move (v := .bool (r_4 && r_5)) rfl rfl) ?_
        refine sgq 44 (B := (r_4 && r_5)) (v := pt (some ⟨b, 0, none⟩) 1) rfl rfl (wt_t (gd_of (t := 43) (by kernel_rfl) rfl)) (fun hg12 => (Y_fieldAddr (B := some ⟨b, 0, none⟩) (i := 0) (s := 0) k_fd_109_1_1_3 k_sz_3_1 rfl rfl)) ?_
        refine sgq 45 (B := (r_4 && r_5)) (v := .int .i64 g.A) rfl rfl (wt_t (gd_of (t := 43) (by kernel_rfl) rfl)) (fun hg13 => (Y_load1 (B := some ⟨b, 0, none⟩) (i := 1) (cs := [.int .i64 g.Kind, .int .i64 g.A, .int .i64 g.B]) (v := .int .i64 g.A) k_sc_3 rfl (gv_of (B := (r_4 && r_5)) (v := pt (some ⟨b, 0, none⟩) 1) hg13) (hS6.cf (i := 0) rfl) rfl)) ?_
        refine sgq 46 (B := (r_4 && r_5)) (v := pt (some ⟨b, 0, none⟩) 2) rfl rfl (wt_t (gd_of (t := 43) (by kernel_rfl) rfl)) (fun hg14 => (Y_fieldAddr (B := some ⟨b, 0, none⟩) (i := 0) (s := 0) k_fd_109_2_2_3 k_sz_3_1 rfl rfl)) ?_
        refine sgq 47 (B := (r_4 && r_5)) (v := .int .i64 g.B) rfl rfl (wt_t (gd_of (t := 43) (by kernel_rfl) rfl)) (fun hg15 => (Y_load1 (B := some ⟨b, 0, none⟩) (i := 2) (cs := [.int .i64 g.Kind, .int .i64 g.A, .int .i64 g.B]) (v := .int .i64 g.B) k_sc_3 rfl (gv_of (B := (r_4 && r_5)) (v := pt (some ⟨b, 0, none⟩) 2) hg15) (hS6.cf (i := 0) rfl) rfl)) ?_
        refine sgq 48 (B := (r_4 && r_5)) (v := .bool (g.A != g.B)) rfl rfl (wt_t (gd_of (t := 43) (by kernel_rfl) rfl)) (fun hg16 => (Y_ne (k := .i64) (a := g.A) (b := g.B) rfl (gv_of (B := (r_4 && r_5)) (v := .int .i64 g.A) hg16) (gv_of (B := (r_4 && r_5)) (v := .int .i64 g.B) hg16))) ?_
        refine sq 49 rfl rfl (Y_and (b := (r_4 && r_5)) (z := (g.A != g.B)) rfl rfl rfl rfl) ?_
        refine sq 4 rfl rfl (Y_assign (v := .bool ((r_4 && r_5) && (g.A != g.B))) rfl rfl) ?_
        refine rw_nil ?_
        refine cw_ret ?_
        obtain rfl := some_inj hF5
        exact ret1 Try.results81 (v1 := .bool ((r_4 && r_5) && (g.A != g.B))) (resAt_tmp rfl) ⟨rfl, (ST.subR (R' := []) (hS6.sel [] rfl rfl) (fun _ h => by cases h))⟩
      · skip
        have hF6 := cf' hF4 hb2
        refine cw_skip ?_
        refine cw_seq ?_
        refine cw_region ?_
        refine sq 50 rfl rfl (Y_fieldAddr (B := some ⟨b, 0, none⟩) (i := 0) (s := 0) k_fd_109_1_1_3 k_sz_3_1 rfl rfl) ?_
        refine sq 51 rfl rfl (Y_load1 (B := some ⟨b, 0, none⟩) (i := 1) (cs := [.int .i64 g.Kind, .int .i64 g.A, .int .i64 g.B]) (v := .int .i64 g.A) k_sc_3 rfl rfl (hS4.cf (i := 0) rfl) rfl) ?_
        refine sq 52 rfl rfl (Y_move (v := .int .i64 n) rfl rfl) ?_
        refine sq 53 rfl rfl (Y_sub (k := .i64) (a := n) (b := 1) rfl rfl rfl) ?_
        obtain ⟨r_6, hc5, hF6⟩ := bind_inv hF6
        refine sc 54 rfl rfl (Yc_func (g := 36) (vs := [.int .i64 g.A, .int .i64 0, .int .i64 (IntKind.i64.wrap (n - 1))]) k_call_36 rfl (mc rfl (mc rfl (mc rfl mn))) (c_impl_within g.A 0 (IntKind.i64.wrap (n - 1)) _  (hS4.inn0 [] rfl) hc5)) ?_
        rintro _ w_6 ⟨rfl, hd3⟩
        have hS7 := hS4.out00 hd3
        refine sq 55 rfl rfl (Y_move (v := .bool r_6) rfl rfl) ?_
        refine sgq 56 (B := r_6) (v := pt (some ⟨b, 0, none⟩) 2) rfl rfl (wt_t (gd_of (t := 55) (by kernel_rfl) rfl)) (fun hg17 => (Y_fieldAddr (B := some ⟨b, 0, none⟩) (i := 0) (s := 0) k_fd_109_2_2_3 k_sz_3_1 rfl rfl)) ?_
        refine sgq 57 (B := r_6) (v := .int .i64 g.B) rfl rfl (wt_t (gd_of (t := 55) (by kernel_rfl) rfl)) (fun hg18 => (Y_load1 (B := some ⟨b, 0, none⟩) (i := 2) (cs := [.int .i64 g.Kind, .int .i64 g.A, .int .i64 g.B]) (v := .int .i64 g.B) k_sc_3 rfl (gv_of (B := r_6) (v := pt (some ⟨b, 0, none⟩) 2) hg18) (hS7.cf (i := 0) rfl) rfl)) ?_
        refine sgq 58 (B := r_6) (v := .bool (g.B == 0)) rfl rfl (wt_t (gd_of (t := 55) (by kernel_rfl) rfl)) (fun hg19 => (Y_eq (k := .i64) (a := g.B) (b := 0) rfl (gv_of (B := r_6) (v := .int .i64 g.B) hg19) rfl)) ?_
        refine sq 59 rfl rfl (Y_and (b := r_6) (z := (g.B == 0)) rfl rfl rfl rfl) ?_
        refine sq 4 rfl rfl (Y_assign (v := .bool (r_6 && (g.B == 0))) rfl rfl) ?_
        refine rw_nil ?_
        refine cw_ret ?_
        obtain rfl := some_inj hF6
        exact ret1 Try.results81 (v1 := .bool (r_6 && (g.B == 0))) (resAt_tmp rfl) ⟨rfl, (ST.subR (R' := []) (hS7.sel [] rfl rfl) (fun _ h => by cases h))⟩

theorem c_impl_IsValidCircuit_1 (g : TGate) (p : TCircuit) (B : Option Addr) (B1 : Option Addr) (c n : Nat) (w0 : World) (hn : p.Gates.length = n) (hS : ST w0 [] w0 [] [⟨B, [.int .i64 p.Qubits, .slice B1 n c]⟩, ⟨B1, (p.Gates.flatMap enc_Gate)⟩]) {r_ : Bool} (hF : F_impl_IsValidCircuit_1 g p = some r_) :
    CV Try.prog 80 #[.agg #[.int .i64 g.Kind, .int .i64 g.A, .int .i64 g.B], pt B 0] w0 (fun v w' => v = .bool r_ ∧ ST w0 [] w' [] []) := by
  subst hn
  unfold F_impl_IsValidCircuit_1 at hF
  refine cv_of_cw 9 Try.func80 rfl Try.ntmps80 rfl ?_
  refine cw_seq ?_
  refine cw_region ?_
  refine ss 2 rfl rfl (Ys_box (T := 109) (v := .agg #[.int .i64 g.Kind, .int .i64 g.A, .int .i64 g.B]) (cs := [.int .i64 g.Kind, .int .i64 g.A, .int .i64 g.B]) (m := 3) hS rfl rfl rfl rfl) ?_
  rintro _ w_ ⟨b, rfl, hS1⟩
  refine sq 3 rfl rfl (Y_assign (v := .bool false) rfl rfl) ?_
  refine rw_nil ?_
  refine cw_seq ?_
  refine cw_region ?_
  refine sq 4 rfl rfl (Y_fieldAddr (B := B) (i := 0) (s := 0) k_fd_33_0_0_3 k_sz_3_1 rfl rfl) ?_
  refine sq 5 rfl rfl (Y_load1 (B := B) (i := 0) (cs := [.int .i64 p.Qubits, .slice B1 p.Gates.length c]) (v := .int .i64 p.Qubits) k_sc_3 rfl rfl (hS1.rf (i := 0) rfl) rfl) ?_
  refine sq 6 rfl rfl (Y_loadA (B := some ⟨b, 0, none⟩) (i := 0) (cs := [.int .i64 g.Kind, .int .i64 g.A, .int .i64 g.B]) (vs := [.int .i64 g.Kind, .int .i64 g.A, .int .i64 g.B]) k_ag_109 k_sz_109_3 rfl rfl (hS1.cf (i := 0) rfl) rfl rfl) ?_
  obtain ⟨r_1, hc, hF⟩ := bind_inv hF
  refine sc 7 rfl rfl (Yc_func (g := 81) (vs := [.int .i64 p.Qubits, .agg #[.int .i64 g.Kind, .int .i64 g.A, .int .i64 g.B]]) k_call_81 rfl (mc rfl (mc rfl mn)) (c_impl_IsValidGate p.Qubits g _  (hS1.inn0 [] rfl) hc)) ?_
  rintro _ w_1 ⟨rfl, hd⟩
  have hS2 := hS1.out00 hd
  refine sq 8 rfl rfl (Y_not (p := r_1) rfl rfl) ?_
  refine sq 3 rfl rfl (Y_assign (v := .bool (!r_1)) rfl rfl) ?_
  refine rw_nil ?_
  refine cw_ret ?_
  obtain rfl := some_inj hF
  exact ret1 Try.results80 (v1 := .bool (!r_1)) (resAt_tmp rfl) ⟨rfl, (ST.subR (R' := []) (hS2.sel [] rfl rfl) (fun _ h => by cases h))⟩
end Go.VK
