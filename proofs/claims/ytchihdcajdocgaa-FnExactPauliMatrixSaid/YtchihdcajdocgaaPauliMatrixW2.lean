/- Walks: each Go function returns what its Lean function says. By program. -/
import Derived.Test.YtchihdcajdocgaaPauliMatrixFa
import Derived.Test.YtchihdcajdocgaaPauliMatrixW1
set_option linter.unusedVariables false
set_option maxRecDepth 100000
set_option maxHeartbeats 1000000
namespace Go.VK
open Go.RowKit
open Go.Proofs
attribute [local irreducible] CW RW RA CV Y Yw Yc Ys RetOf
attribute [local irreducible] F_spec_l1In F_spec_l7Valid F_spec_l7Letter F_spec_l1Turn F_spec_l2Power F_spec_l3Unit F_spec_l1Even F_spec_l1Root F_spec_l1Half F_spec_l2Low F_spec_l1All F_spec_l1Good F_spec_l2C_ring F_spec_l1Add F_spec_l2C_add F_spec_l1Mul F_spec_l2C_mul F_spec_l2C_times F_spec_l6Bit F_spec_l1Neg F_spec_l2Neg F_spec_l6One F_spec_l6Cell F_spec_l6Gate F_spec_l2C_run F_spec_l6Op F_spec_l7Op F_spec_PauliMatrix F_laws_toPauli F_impl_within F_impl_IsValidPauli F_impl_isDim F_impl_matrixOf F_impl_isCoef F_impl_IsValidRing F_impl_MulOmega F_impl_phase F_impl_ringIf F_impl_MulRing F_impl_isEven F_impl_IsValidDyadic F_impl_DivRootTwo F_impl_DyadicOf F_impl_MulDyadic F_impl_whole F_impl_small F_impl_entry F_impl_factor F_impl_letterOf F_impl_bitOf F_impl_PauliMatrix_1 F_impl_PauliMatrix F_laws_eqRing F_laws_eqDyadic F_laws_eqDyadicS F_laws_eqMatrix F_laws_markDyadicS F_laws_markMatrix F_laws_heldDyadicS F_laws_heldMatrix F_laws_FnExactPauliMatrix
theorem c_spec_l2Neg (x : TDyadic)  (w0 : World)  (hS : ST w0 [] w0 [] []) {r_ : TDyadic} (hF : F_spec_l2Neg x = some r_) :
    CV Try.prog 175 #[.agg #[.int .i64 x.Num.A, .int .i64 x.Num.B, .int .i64 x.Num.C, .int .i64 x.Num.D, .int .i64 x.Exp]] w0 (fun v w' => v = .agg #[.int .i64 r_.Num.A, .int .i64 r_.Num.B, .int .i64 r_.Num.C, .int .i64 r_.Num.D, .int .i64 r_.Exp] ∧ ST w0 [] w' [] []) := by
  unfold F_spec_l2Neg at hF
  refine cv_of_cw 9 Try.func175 rfl Try.ntmps175 rfl ?_
  refine cw_seq ?_
  refine cw_region ?_
  refine ss 1 rfl rfl (Ys_box (T := 44) (v := .agg #[.int .i64 x.Num.A, .int .i64 x.Num.B, .int .i64 x.Num.C, .int .i64 x.Num.D, .int .i64 x.Exp]) (cs := [.int .i64 x.Num.A, .int .i64 x.Num.B, .int .i64 x.Num.C, .int .i64 x.Num.D, .int .i64 x.Exp]) (m := 5) hS rfl rfl rfl rfl) ?_
  rintro _ w_ ⟨b, rfl, hS1⟩
  refine ss 2 rfl rfl (Ys_alloc (T := 44) (cs := [.int .i64 0, .int .i64 0, .int .i64 0, .int .i64 0, .int .i64 0]) (m := 5) hS1 k_zero_44 rfl rfl rfl) ?_
  rintro _ w_1 ⟨b1, rfl, hS2⟩
  have hS2 : ST w0 [] _ [⟨some ⟨b, 0, none⟩, 44, [.int .i64 x.Num.A, .int .i64 x.Num.B, .int .i64 x.Num.C, .int .i64 x.Num.D, .int .i64 x.Exp], 5⟩, ⟨some ⟨b1, 0, none⟩, 44, [.int .i64 0, .int .i64 0, .int .i64 0, .int .i64 0, .int .i64 0], 5⟩] [] := hS2
  refine rw_nil ?_
  refine cw_seq ?_
  obtain ⟨r_1, hc, hF⟩ := bind_inv hF
  refine ra_start (ST.sel hS2 [0] rfl rfl).fn (by kernel_rfl) ?_
  have hS4 := hS2.drew
  refine ra_q 0 3 (v := pt (some ⟨b, 0, none⟩) 0) rfl rfl rfl (by kernel_rfl) (by kernel_rfl) (by kernel_rfl) (ST.sel hS4 [0] rfl rfl) (fun w' hw' => (Y_fieldAddr (B := some ⟨b, 0, none⟩) (i := 0) (s := 3) k_fd_44_0_0_42 k_sz_42_4 rfl rfl)) ?_
  refine ra_q 1 4 (v := .agg #[.int .i64 x.Num.A, .int .i64 x.Num.B, .int .i64 x.Num.C, .int .i64 x.Num.D]) rfl rfl rfl (by kernel_rfl) (by kernel_rfl) (by kernel_rfl) (ST.sel hS4 [0] rfl rfl) (fun w' hw' => (Y_loadA (B := some ⟨b, 0, none⟩) (i := 0) (cs := [.int .i64 x.Num.A, .int .i64 x.Num.B, .int .i64 x.Num.C, .int .i64 x.Num.D, .int .i64 x.Exp]) (vs := [.int .i64 x.Num.A, .int .i64 x.Num.B, .int .i64 x.Num.C, .int .i64 x.Num.D]) k_ag_42 k_sz_42_4 rfl rfl (ST.cf hw' (i := 0) rfl) rfl rfl)) ?_
  refine ra_q 3 6 (v := pt (some ⟨b, 0, none⟩) 4) rfl rfl rfl (by kernel_rfl) (by kernel_rfl) (by kernel_rfl) (ST.sel hS4 [0] rfl rfl) (fun w' hw' => (Y_fieldAddr (B := some ⟨b, 0, none⟩) (i := 0) (s := 0) k_fd_44_1_4_3 k_sz_3_1 rfl rfl)) ?_
  refine ra_q 4 7 (v := .int .i64 x.Exp) rfl rfl rfl (by kernel_rfl) (by kernel_rfl) (by kernel_rfl) (ST.sel hS4 [0] rfl rfl) (fun w' hw' => (Y_load1 (B := some ⟨b, 0, none⟩) (i := 4) (cs := [.int .i64 x.Num.A, .int .i64 x.Num.B, .int .i64 x.Num.C, .int .i64 x.Num.D, .int .i64 x.Exp]) (v := .int .i64 x.Exp) k_sc_3 rfl rfl (ST.cf hw' (i := 0) rfl) rfl)) ?_
  refine ra_all (rs := [2]) (by kernel_rfl) rfl ?_
  refine ra_c 5 (i := 2) rfl rfl rfl (Yc_func (g := 176) (vs := [.agg #[.int .i64 x.Num.A, .int .i64 x.Num.B, .int .i64 x.Num.C, .int .i64 x.Num.D]]) k_call_176 rfl (mc rfl mn) (c_spec_l1Neg x.Num _  (hS4.inn0 [] rfl) hc)) ?_ ?_
  · rintro _ w_2 ⟨rfl, hd⟩
    have hS5 := hS4.out00 hd
    have hS5 : ST w0 [] _ [⟨some ⟨b, 0, none⟩, 44, [.int .i64 x.Num.A, .int .i64 x.Num.B, .int .i64 x.Num.C, .int .i64 x.Num.D, .int .i64 x.Exp], 5⟩, ⟨some ⟨b1, 0, none⟩, 44, [.int .i64 0, .int .i64 0, .int .i64 0, .int .i64 0, .int .i64 0], 5⟩] [] := hS5
    refine ⟨(ST.sel hS5 [0] rfl rfl), ?_⟩
    refine ra_q 5 8 (v := .agg #[.int .i64 r_1.A, .int .i64 r_1.B, .int .i64 r_1.C, .int .i64 r_1.D, .int .i64 x.Exp]) rfl rfl rfl (by kernel_rfl) (by kernel_rfl) (by kernel_rfl) (ST.sel hS5 [0] rfl rfl) (fun w' hw' => (Y_buildS (zs := [.int .i64 0, .int .i64 0, .int .i64 0, .int .i64 0, .int .i64 0]) (vs := [(0, .agg #[.int .i64 r_1.A, .int .i64 r_1.B, .int .i64 r_1.C, .int .i64 r_1.D]), (1, .int .i64 x.Exp)]) (cs := [.int .i64 r_1.A, .int .i64 r_1.B, .int .i64 r_1.C, .int .i64 r_1.D, .int .i64 x.Exp]) k_pl_44 k_zero_44 rfl (mpc rfl (mpc rfl mpn)) rfl)) ?_
    refine ra_all (rs := [6]) (by kernel_rfl) rfl ?_
    refine ra_s0 (i := 6) rfl rfl rfl (Ys_store (i := 1) (s := 5) (B := some ⟨b1, 0, none⟩) (T' := 44) (v := .agg #[.int .i64 r_1.A, .int .i64 r_1.B, .int .i64 r_1.C, .int .i64 r_1.D, .int .i64 x.Exp]) (vs := [.int .i64 r_1.A, .int .i64 r_1.B, .int .i64 r_1.C, .int .i64 r_1.D, .int .i64 x.Exp]) (k := 0) (cs' := [.int .i64 r_1.A, .int .i64 r_1.B, .int .i64 r_1.C, .int .i64 r_1.D, .int .i64 x.Exp]) hS5 k_sz_44_5 rfl rfl rfl rfl rfl rfl rfl (Nat.le_of_ble_eq_true rfl) rfl rfl) ?_ ?_
    · rintro _ w_3 ⟨rfl, hS6⟩
      have hS6 : ST w0 [] _ [⟨some ⟨b, 0, none⟩, 44, [.int .i64 x.Num.A, .int .i64 x.Num.B, .int .i64 x.Num.C, .int .i64 x.Num.D, .int .i64 x.Exp], 5⟩, ⟨some ⟨b1, 0, none⟩, 44, [.int .i64 r_1.A, .int .i64 r_1.B, .int .i64 r_1.C, .int .i64 r_1.D, .int .i64 x.Exp], 5⟩] [] := hS6
      refine ⟨(ST.sel hS6 [0] rfl rfl), ?_⟩
      refine ra_done (by kernel_rfl) ?_
      refine cw_ret ?_
      obtain rfl := some_inj hF
      exact ret1 Try.results175 (v1 := .agg #[.int .i64 r_1.A, .int .i64 r_1.B, .int .i64 r_1.C, .int .i64 r_1.D, .int .i64 x.Exp]) (resAt_cellA (B := some ⟨b1, 0, none⟩) (i := 0) (cs := [.int .i64 r_1.A, .int .i64 r_1.B, .int .i64 r_1.C, .int .i64 r_1.D, .int .i64 x.Exp]) (vs := [.int .i64 r_1.A, .int .i64 r_1.B, .int .i64 r_1.C, .int .i64 r_1.D, .int .i64 x.Exp]) rfl k_ag_44 k_sz_44_5 (hS6.cf (i := 1) rfl) rfl rfl) ⟨rfl, (ST.subR (R' := []) (hS6.sel [] rfl rfl) (fun _ h => by cases h))⟩
    exact allR_nil
  exact allR_nil

theorem c_spec_l6One (kind : Int)  (w0 : World)  (hS : ST w0 [] w0 [] []) {r_ : List TDyadic} (hF : F_spec_l6One kind = some r_) :
    CV Try.prog 174 #[.int .i64 kind] w0 (fun v w' => ∃ (B : Option Addr) (c : Nat), v = .slice B r_.length c ∧ ST w0 [] w' [⟨B, 44, (r_.flatMap enc_Dyadic), c * 5⟩] []) := by
  unfold F_spec_l6One at hF
  refine cv_of_cw 43 Try.func174 rfl Try.ntmps174 rfl ?_
  refine cw_seq ?_
  refine cw_region ?_
  refine sq 2 rfl rfl (Y_assign (v := .slice none 0 0) rfl rfl) ?_
  refine rw_nil ?_
  refine cw_seq ?_
  refine cw_region ?_
  obtain ⟨r_1, hc, hF⟩ := bind_inv hF
  refine sc 6 rfl rfl (Yc_func (g := 143) (vs := [.int .i64 0]) k_call_143 rfl (mc rfl mn) (c_spec_l2Power 0 _  (hS.inn0 [] rfl) hc)) ?_
  rintro _ w_ ⟨rfl, hd⟩
  have hS1 := hS.out00 hd
  refine sq 7 rfl rfl (Y_buildS (zs := [.int .i64 0, .int .i64 0, .int .i64 0, .int .i64 0, .int .i64 0]) (vs := []) (cs := [.int .i64 0, .int .i64 0, .int .i64 0, .int .i64 0, .int .i64 0]) k_pl_44 k_zero_44 rfl mpn rfl) ?_
  refine ss 3 rfl rfl (Ys_alloc (T := 44) (cs := [.int .i64 0, .int .i64 0, .int .i64 0, .int .i64 0, .int .i64 0]) (m := 5) hS1 k_zero_44 rfl rfl rfl) ?_
  rintro _ w_1 ⟨b, rfl, hS2⟩
  refine ss 4 rfl rfl (Ys_alloc (T := 44) (cs := [.int .i64 0, .int .i64 0, .int .i64 0, .int .i64 0, .int .i64 0]) (m := 5) hS2 k_zero_44 rfl rfl rfl) ?_
  rintro _ w_2 ⟨b1, rfl, hS3⟩
  have hS3 : ST w0 [] _ [⟨some ⟨b, 0, none⟩, 44, [.int .i64 0, .int .i64 0, .int .i64 0, .int .i64 0, .int .i64 0], 5⟩, ⟨some ⟨b1, 0, none⟩, 44, [.int .i64 0, .int .i64 0, .int .i64 0, .int .i64 0, .int .i64 0], 5⟩] [] := hS3
  refine ss0 rfl rfl (Ys_store (i := 0) (s := 5) (B := some ⟨b, 0, none⟩) (T' := 44) (v := .agg #[.int .i64 r_1.Num.A, .int .i64 r_1.Num.B, .int .i64 r_1.Num.C, .int .i64 r_1.Num.D, .int .i64 r_1.Exp]) (vs := [.int .i64 r_1.Num.A, .int .i64 r_1.Num.B, .int .i64 r_1.Num.C, .int .i64 r_1.Num.D, .int .i64 r_1.Exp]) (k := 0) (cs' := [.int .i64 r_1.Num.A, .int .i64 r_1.Num.B, .int .i64 r_1.Num.C, .int .i64 r_1.Num.D, .int .i64 r_1.Exp]) hS3 k_sz_44_5 rfl rfl rfl rfl rfl rfl rfl (Nat.le_of_ble_eq_true rfl) rfl rfl) ?_
  rintro _ w_3 ⟨rfl, hS4⟩
  have hS4 : ST w0 [] _ [⟨some ⟨b, 0, none⟩, 44, [.int .i64 r_1.Num.A, .int .i64 r_1.Num.B, .int .i64 r_1.Num.C, .int .i64 r_1.Num.D, .int .i64 r_1.Exp], 5⟩, ⟨some ⟨b1, 0, none⟩, 44, [.int .i64 0, .int .i64 0, .int .i64 0, .int .i64 0, .int .i64 0], 5⟩] [] := hS4
  refine ss0 rfl rfl (Ys_store (i := 1) (s := 5) (B := some ⟨b1, 0, none⟩) (T' := 44) (v := .agg #[.int .i64 0, .int .i64 0, .int .i64 0, .int .i64 0, .int .i64 0]) (vs := [.int .i64 0, .int .i64 0, .int .i64 0, .int .i64 0, .int .i64 0]) (k := 0) (cs' := [.int .i64 0, .int .i64 0, .int .i64 0, .int .i64 0, .int .i64 0]) hS4 k_sz_44_5 rfl rfl rfl rfl rfl rfl rfl (Nat.le_of_ble_eq_true rfl) rfl rfl) ?_
  rintro _ w_4 ⟨rfl, hS5⟩
  have hS5 : ST w0 [] _ [⟨some ⟨b, 0, none⟩, 44, [.int .i64 r_1.Num.A, .int .i64 r_1.Num.B, .int .i64 r_1.Num.C, .int .i64 r_1.Num.D, .int .i64 r_1.Exp], 5⟩, ⟨some ⟨b1, 0, none⟩, 44, [.int .i64 0, .int .i64 0, .int .i64 0, .int .i64 0, .int .i64 0], 5⟩] [] := hS5
  refine rw_nil ?_
  refine cw_seq ?_
  refine cw_region ?_
  refine sq 8 rfl rfl (Y_buildS (zs := [.int .i64 0, .int .i64 0, .int .i64 0, .int .i64 0]) (vs := [(0, .int .i64 1)]) (cs := [.int .i64 1, .int .i64 0, .int .i64 0, .int .i64 0]) k_pl_42 k_zero_42 rfl (mpc rfl mpn) rfl) ?_
  refine sq 9 rfl rfl (Y_buildS (zs := [.int .i64 0, .int .i64 0, .int .i64 0, .int .i64 0, .int .i64 0]) (vs := [(0, .agg #[.int .i64 1, .int .i64 0, .int .i64 0, .int .i64 0]), (1, .int .i64 1)]) (cs := [.int .i64 1, .int .i64 0, .int .i64 0, .int .i64 0, .int .i64 1]) k_pl_44 k_zero_44 rfl (mpc rfl (mpc rfl mpn)) rfl) ?_
  refine ss 5 rfl rfl (Ys_alloc (T := 44) (cs := [.int .i64 0, .int .i64 0, .int .i64 0, .int .i64 0, .int .i64 0]) (m := 5) hS5 k_zero_44 rfl rfl rfl) ?_
  rintro _ w_5 ⟨b2, rfl, hS6⟩
  have hS6 : ST w0 [] _ [⟨some ⟨b, 0, none⟩, 44, [.int .i64 r_1.Num.A, .int .i64 r_1.Num.B, .int .i64 r_1.Num.C, .int .i64 r_1.Num.D, .int .i64 r_1.Exp], 5⟩, ⟨some ⟨b1, 0, none⟩, 44, [.int .i64 0, .int .i64 0, .int .i64 0, .int .i64 0, .int .i64 0], 5⟩, ⟨some ⟨b2, 0, none⟩, 44, [.int .i64 0, .int .i64 0, .int .i64 0, .int .i64 0, .int .i64 0], 5⟩] [] := hS6
  refine ss0 rfl rfl (Ys_store (i := 2) (s := 5) (B := some ⟨b2, 0, none⟩) (T' := 44) (v := .agg #[.int .i64 1, .int .i64 0, .int .i64 0, .int .i64 0, .int .i64 1]) (vs := [.int .i64 1, .int .i64 0, .int .i64 0, .int .i64 0, .int .i64 1]) (k := 0) (cs' := [.int .i64 1, .int .i64 0, .int .i64 0, .int .i64 0, .int .i64 1]) hS6 k_sz_44_5 rfl rfl rfl rfl rfl rfl rfl (Nat.le_of_ble_eq_true rfl) rfl rfl) ?_
  rintro _ w_6 ⟨rfl, hS7⟩
  have hS7 : ST w0 [] _ [⟨some ⟨b, 0, none⟩, 44, [.int .i64 r_1.Num.A, .int .i64 r_1.Num.B, .int .i64 r_1.Num.C, .int .i64 r_1.Num.D, .int .i64 r_1.Exp], 5⟩, ⟨some ⟨b1, 0, none⟩, 44, [.int .i64 0, .int .i64 0, .int .i64 0, .int .i64 0, .int .i64 0], 5⟩, ⟨some ⟨b2, 0, none⟩, 44, [.int .i64 1, .int .i64 0, .int .i64 0, .int .i64 0, .int .i64 1], 5⟩] [] := hS7
  refine rw_nil ?_
  refine cw_seq ?_
  refine cw_seq ?_
  refine cw_region ?_
  refine sq 10 rfl rfl (Y_move (v := .int .i64 kind) rfl rfl) ?_
  refine rw_nil ?_
  refine cw_block ?_
  refine cw_seq ?_
  refine cw_region ?_
  refine sq 12 rfl rfl (Y_eq (k := .i64) (a := kind) (b := 1) rfl rfl rfl) ?_
  refine sq 11 rfl rfl (Y_assign (v := .bool (kind == 1)) rfl rfl) ?_
  refine rw_nil ?_
  refine cw_cond (b := (kind == 1)) rfl (fun hb => ?_) (fun hb => ?_)
  · skip
    have hF1 := ct hF hb
    refine cw_seq ?_
    obtain ⟨r_2, hc1, hF1⟩ := bind_inv hF1
    refine ra_start (ST.sel hS7 [0, 1, 2] rfl rfl).fn (by kernel_rfl) ?_
    have hS9 := hS7.drew
    refine ra_q 0 13 (v := .agg #[.int .i64 1, .int .i64 0, .int .i64 0, .int .i64 0, .int .i64 1]) rfl rfl rfl (by kernel_rfl) (by kernel_rfl) (by kernel_rfl) (ST.sel hS9 [0, 1, 2] rfl rfl) (fun w' hw' => (Y_loadA (B := some ⟨b2, 0, none⟩) (i := 0) (cs := [.int .i64 1, .int .i64 0, .int .i64 0, .int .i64 0, .int .i64 1]) (vs := [.int .i64 1, .int .i64 0, .int .i64 0, .int .i64 0, .int .i64 1]) k_ag_44 k_sz_44_5 rfl rfl (ST.cf hw' (i := 2) rfl) rfl rfl)) ?_
    refine ra_q 1 14 (v := .agg #[.int .i64 1, .int .i64 0, .int .i64 0, .int .i64 0, .int .i64 1]) rfl rfl rfl (by kernel_rfl) (by kernel_rfl) (by kernel_rfl) (ST.sel hS9 [0, 1, 2] rfl rfl) (fun w' hw' => (Y_loadA (B := some ⟨b2, 0, none⟩) (i := 0) (cs := [.int .i64 1, .int .i64 0, .int .i64 0, .int .i64 0, .int .i64 1]) (vs := [.int .i64 1, .int .i64 0, .int .i64 0, .int .i64 0, .int .i64 1]) k_ag_44 k_sz_44_5 rfl rfl (ST.cf hw' (i := 2) rfl) rfl rfl)) ?_
    refine ra_q 2 15 (v := .agg #[.int .i64 1, .int .i64 0, .int .i64 0, .int .i64 0, .int .i64 1]) rfl rfl rfl (by kernel_rfl) (by kernel_rfl) (by kernel_rfl) (ST.sel hS9 [0, 1, 2] rfl rfl) (fun w' hw' => (Y_loadA (B := some ⟨b2, 0, none⟩) (i := 0) (cs := [.int .i64 1, .int .i64 0, .int .i64 0, .int .i64 0, .int .i64 1]) (vs := [.int .i64 1, .int .i64 0, .int .i64 0, .int .i64 0, .int .i64 1]) k_ag_44 k_sz_44_5 rfl rfl (ST.cf hw' (i := 2) rfl) rfl rfl)) ?_
    refine ra_q 3 16 (v := .agg #[.int .i64 1, .int .i64 0, .int .i64 0, .int .i64 0, .int .i64 1]) rfl rfl rfl (by kernel_rfl) (by kernel_rfl) (by kernel_rfl) (ST.sel hS9 [0, 1, 2] rfl rfl) (fun w' hw' => (Y_loadA (B := some ⟨b2, 0, none⟩) (i := 0) (cs := [.int .i64 1, .int .i64 0, .int .i64 0, .int .i64 0, .int .i64 1]) (vs := [.int .i64 1, .int .i64 0, .int .i64 0, .int .i64 0, .int .i64 1]) k_ag_44 k_sz_44_5 rfl rfl (ST.cf hw' (i := 2) rfl) rfl rfl)) ?_
    refine ra_all (rs := [4]) (by kernel_rfl) rfl ?_
    refine ra_c 17 (i := 4) rfl rfl rfl (Yc_func (g := 175) (vs := [.agg #[.int .i64 1, .int .i64 0, .int .i64 0, .int .i64 0, .int .i64 1]]) k_call_175 rfl (mc rfl mn) (c_spec_l2Neg (TDyadic.mk (TRing.mk 1 0 0 0) 1) _  (hS9.inn0 [] rfl) hc1)) ?_ ?_
    · rintro _ w_7 ⟨rfl, hd1⟩
      have hS10 := hS9.out00 hd1
      have hS10 : ST w0 [] _ [⟨some ⟨b, 0, none⟩, 44, [.int .i64 r_1.Num.A, .int .i64 r_1.Num.B, .int .i64 r_1.Num.C, .int .i64 r_1.Num.D, .int .i64 r_1.Exp], 5⟩, ⟨some ⟨b1, 0, none⟩, 44, [.int .i64 0, .int .i64 0, .int .i64 0, .int .i64 0, .int .i64 0], 5⟩, ⟨some ⟨b2, 0, none⟩, 44, [.int .i64 1, .int .i64 0, .int .i64 0, .int .i64 0, .int .i64 1], 5⟩] [] := hS10
      refine ⟨(ST.sel hS10 [0, 1, 2] rfl rfl), ?_⟩
      refine ra_all (rs := [5]) (by kernel_rfl) rfl ?_
      refine ra_s 18 (i := 5) rfl rfl rfl (Ys_bslice (s := 5) (len := 4) (vs := [(0, .agg #[.int .i64 1, .int .i64 0, .int .i64 0, .int .i64 0, .int .i64 1]), (1, .agg #[.int .i64 1, .int .i64 0, .int .i64 0, .int .i64 0, .int .i64 1]), (2, .agg #[.int .i64 1, .int .i64 0, .int .i64 0, .int .i64 0, .int .i64 1]), (3, .agg #[.int .i64 r_2.Num.A, .int .i64 r_2.Num.B, .int .i64 r_2.Num.C, .int .i64 r_2.Num.D, .int .i64 r_2.Exp])]) (cs := [.int .i64 1, .int .i64 0, .int .i64 0, .int .i64 0, .int .i64 1, .int .i64 1, .int .i64 0, .int .i64 0, .int .i64 0, .int .i64 1, .int .i64 1, .int .i64 0, .int .i64 0, .int .i64 0, .int .i64 1, .int .i64 r_2.Num.A, .int .i64 r_2.Num.B, .int .i64 r_2.Num.C, .int .i64 r_2.Num.D, .int .i64 r_2.Exp]) (zs := [.int .i64 0, .int .i64 0, .int .i64 0, .int .i64 0, .int .i64 0, .int .i64 0, .int .i64 0, .int .i64 0, .int .i64 0, .int .i64 0, .int .i64 0, .int .i64 0, .int .i64 0, .int .i64 0, .int .i64 0, .int .i64 0, .int .i64 0, .int .i64 0, .int .i64 0, .int .i64 0]) (m := 20) hS10 k_sl_24_44 k_sz_44_5 k_zc_44 rfl (mpc rfl (mpc rfl (mpc rfl (mpc rfl mpn)))) rfl rfl rfl (by kernel_rfl) (by kernel_rfl) rfl) ?_ ?_
      · rintro _ w_8 ⟨b3, rfl, hS11⟩
        have hS11 : ST w0 [] _ [⟨some ⟨b, 0, none⟩, 44, [.int .i64 r_1.Num.A, .int .i64 r_1.Num.B, .int .i64 r_1.Num.C, .int .i64 r_1.Num.D, .int .i64 r_1.Exp], 5⟩, ⟨some ⟨b1, 0, none⟩, 44, [.int .i64 0, .int .i64 0, .int .i64 0, .int .i64 0, .int .i64 0], 5⟩, ⟨some ⟨b2, 0, none⟩, 44, [.int .i64 1, .int .i64 0, .int .i64 0, .int .i64 0, .int .i64 1], 5⟩, ⟨some ⟨b3, 0, none⟩, 44, ([(TDyadic.mk (TRing.mk 1 0 0 0) 1), (TDyadic.mk (TRing.mk 1 0 0 0) 1), (TDyadic.mk (TRing.mk 1 0 0 0) 1), r_2].flatMap enc_Dyadic), 4 * 5⟩] [] := hS11
        refine ⟨(ST.sel hS11 [0, 1, 2] rfl rfl), ?_⟩
        refine ra_q 6 2 (v := .slice (some ⟨b3, 0, none⟩) 4 4) rfl rfl rfl (by kernel_rfl) (by kernel_rfl) (by kernel_rfl) (ST.sel hS11 [0, 1, 2] rfl rfl) (fun w' hw' => (Y_assign (v := .slice (some ⟨b3, 0, none⟩) 4 4) rfl rfl)) ?_
        refine ra_done (by kernel_rfl) ?_
        refine cw_ret ?_
        obtain rfl := some_inj hF1
        exact ret1 Try.results174 (v1 := .slice (some ⟨b3, 0, none⟩) 4 4) (resAt_tmp rfl) ⟨some ⟨b3, 0, none⟩, 4, rfl, (ST.subR (R' := []) (hS11.sel [3] rfl rfl) (fun _ h => by cases h))⟩
      exact allR_nil
    exact allR_nil
  · skip
    have hF2 := cf' hF hb
    refine cw_seq ?_
    refine cw_region ?_
    refine sq 20 rfl rfl (Y_eq (k := .i64) (a := kind) (b := 2) rfl rfl rfl) ?_
    refine sq 19 rfl rfl (Y_assign (v := .bool (kind == 2)) rfl rfl) ?_
    refine rw_nil ?_
    refine cw_cond (b := (kind == 2)) rfl (fun hb1 => ?_) (fun hb1 => ?_)
    · skip
      have hF3 := ct hF2 hb1
      refine cw_seq ?_
      refine cw_region ?_
      refine sq 21 rfl rfl (Y_loadA (B := some ⟨b1, 0, none⟩) (i := 0) (cs := [.int .i64 0, .int .i64 0, .int .i64 0, .int .i64 0, .int .i64 0]) (vs := [.int .i64 0, .int .i64 0, .int .i64 0, .int .i64 0, .int .i64 0]) k_ag_44 k_sz_44_5 rfl rfl (hS7.cf (i := 1) rfl) rfl rfl) ?_
      refine sq 22 rfl rfl (Y_loadA (B := some ⟨b, 0, none⟩) (i := 0) (cs := [.int .i64 r_1.Num.A, .int .i64 r_1.Num.B, .int .i64 r_1.Num.C, .int .i64 r_1.Num.D, .int .i64 r_1.Exp]) (vs := [.int .i64 r_1.Num.A, .int .i64 r_1.Num.B, .int .i64 r_1.Num.C, .int .i64 r_1.Num.D, .int .i64 r_1.Exp]) k_ag_44 k_sz_44_5 rfl rfl (hS7.cf (i := 0) rfl) rfl rfl) ?_
      refine sq 23 rfl rfl (Y_loadA (B := some ⟨b, 0, none⟩) (i := 0) (cs := [.int .i64 r_1.Num.A, .int .i64 r_1.Num.B, .int .i64 r_1.Num.C, .int .i64 r_1.Num.D, .int .i64 r_1.Exp]) (vs := [.int .i64 r_1.Num.A, .int .i64 r_1.Num.B, .int .i64 r_1.Num.C, .int .i64 r_1.Num.D, .int .i64 r_1.Exp]) k_ag_44 k_sz_44_5 rfl rfl (hS7.cf (i := 0) rfl) rfl rfl) ?_
      refine sq 24 rfl rfl (Y_loadA (B := some ⟨b1, 0, none⟩) (i := 0) (cs := [.int .i64 0, .int .i64 0, .int .i64 0, .int .i64 0, .int .i64 0]) (vs := [.int .i64 0, .int .i64 0, .int .i64 0, .int .i64 0, .int .i64 0]) k_ag_44 k_sz_44_5 rfl rfl (hS7.cf (i := 1) rfl) rfl rfl) ?_
      refine ss 25 rfl rfl (Ys_bslice (s := 5) (len := 4) (vs := [(0, .agg #[.int .i64 0, .int .i64 0, .int .i64 0, .int .i64 0, .int .i64 0]), (1, .agg #[.int .i64 r_1.Num.A, .int .i64 r_1.Num.B, .int .i64 r_1.Num.C, .int .i64 r_1.Num.D, .int .i64 r_1.Exp]), (2, .agg #[.int .i64 r_1.Num.A, .int .i64 r_1.Num.B, .int .i64 r_1.Num.C, .int .i64 r_1.Num.D, .int .i64 r_1.Exp]), (3, .agg #[.int .i64 0, .int .i64 0, .int .i64 0, .int .i64 0, .int .i64 0])]) (cs := [.int .i64 0, .int .i64 0, .int .i64 0, .int .i64 0, .int .i64 0, .int .i64 r_1.Num.A, .int .i64 r_1.Num.B, .int .i64 r_1.Num.C, .int .i64 r_1.Num.D, .int .i64 r_1.Exp, .int .i64 r_1.Num.A, .int .i64 r_1.Num.B, .int .i64 r_1.Num.C, .int .i64 r_1.Num.D, .int .i64 r_1.Exp, .int .i64 0, .int .i64 0, .int .i64 0, .int .i64 0, .int .i64 0]) (zs := [.int .i64 0, .int .i64 0, .int .i64 0, .int .i64 0, .int .i64 0, .int .i64 0, .int .i64 0, .int .i64 0, .int .i64 0, .int .i64 0, .int .i64 0, .int .i64 0, .int .i64 0, .int .i64 0, .int .i64 0, .int .i64 0, .int .i64 0, .int .i64 0, .int .i64 0, .int .i64 0]) (m := 20) hS7 k_sl_24_44 k_sz_44_5 k_zc_44 rfl (mpc rfl (mpc rfl (mpc rfl (mpc rfl mpn)))) rfl rfl rfl (by kernel_rfl) (by kernel_rfl) rfl) ?_
      rintro _ w_9 ⟨b4, rfl, hS12⟩
      have hS12 : ST w0 [] _ [⟨some ⟨b, 0, none⟩, 44, [.int .i64 r_1.Num.A, .int .i64 r_1.Num.B, .int .i64 r_1.Num.C, .int .i64 r_1.Num.D, .int .i64 r_1.Exp], 5⟩, ⟨some ⟨b1, 0, none⟩, 44, [.int .i64 0, .int .i64 0, .int .i64 0, .int .i64 0, .int .i64 0], 5⟩, ⟨some ⟨b2, 0, none⟩, 44, [.int .i64 1, .int .i64 0, .int .i64 0, .int .i64 0, .int .i64 1], 5⟩, ⟨some ⟨b4, 0, none⟩, 44, ([(TDyadic.mk (TRing.mk 0 0 0 0) 0), r_1, r_1, (TDyadic.mk (TRing.mk 0 0 0 0) 0)].flatMap enc_Dyadic), 4 * 5⟩] [] := hS12
      refine sq 2 rfl rfl (Y_assign (v := .slice (some ⟨b4, 0, none⟩) 4 4) rfl rfl) ?_
      refine rw_nil ?_
      refine cw_ret ?_
      obtain rfl := some_inj hF3
      exact ret1 Try.results174 (v1 := .slice (some ⟨b4, 0, none⟩) 4 4) (resAt_tmp rfl) ⟨some ⟨b4, 0, none⟩, 4, rfl, (ST.subR (R' := []) (hS12.sel [3] rfl rfl) (fun _ h => by cases h))⟩
    · skip
      have hF4 := cf' hF2 hb1
      refine cw_seq ?_
      refine cw_region ?_
      refine sq 27 rfl rfl (Y_eq (k := .i64) (a := kind) (b := 3) rfl rfl rfl) ?_
      refine sq 26 rfl rfl (Y_assign (v := .bool (kind == 3)) rfl rfl) ?_
      refine rw_nil ?_
      refine cw_cond (b := (kind == 3)) rfl (fun hb2 => ?_) (fun hb2 => ?_)
      · skip
        have hF5 := ct hF4 hb2
        refine cw_seq ?_
        obtain ⟨r_3, hc2, hF5⟩ := bind_inv hF5
        obtain ⟨r_4, hc3, hF5⟩ := bind_inv hF5
        refine ra_start (ST.sel hS7 [0, 1, 2] rfl rfl).fn (by kernel_rfl) ?_
        have hS15 := hS7.drew
        refine ra_q 0 28 (v := .agg #[.int .i64 0, .int .i64 0, .int .i64 0, .int .i64 0, .int .i64 0]) rfl rfl rfl (by kernel_rfl) (by kernel_rfl) (by kernel_rfl) (ST.sel hS15 [0, 1, 2] rfl rfl) (fun w' hw' => (Y_loadA (B := some ⟨b1, 0, none⟩) (i := 0) (cs := [.int .i64 0, .int .i64 0, .int .i64 0, .int .i64 0, .int .i64 0]) (vs := [.int .i64 0, .int .i64 0, .int .i64 0, .int .i64 0, .int .i64 0]) k_ag_44 k_sz_44_5 rfl rfl (ST.cf hw' (i := 1) rfl) rfl rfl)) ?_
        refine ra_q 3 31 (v := .agg #[.int .i64 0, .int .i64 0, .int .i64 0, .int .i64 0, .int .i64 0]) rfl rfl rfl (by kernel_rfl) (by kernel_rfl) (by kernel_rfl) (ST.sel hS15 [0, 1, 2] rfl rfl) (fun w' hw' => (Y_loadA (B := some ⟨b1, 0, none⟩) (i := 0) (cs := [.int .i64 0, .int .i64 0, .int .i64 0, .int .i64 0, .int .i64 0]) (vs := [.int .i64 0, .int .i64 0, .int .i64 0, .int .i64 0, .int .i64 0]) k_ag_44 k_sz_44_5 rfl rfl (ST.cf hw' (i := 1) rfl) rfl rfl)) ?_
        refine ra_all (rs := [1]) (by kernel_rfl) rfl ?_
        refine ra_c 29 (i := 1) rfl rfl rfl (Yc_func (g := 143) (vs := [.int .i64 6]) k_call_143 rfl (mc rfl mn) (c_spec_l2Power 6 _  (hS15.inn0 [] rfl) hc2)) ?_ ?_
        · rintro _ w_10 ⟨rfl, hd2⟩
          have hS16 := hS15.out00 hd2
          have hS16 : ST w0 [] _ [⟨some ⟨b, 0, none⟩, 44, [.int .i64 r_1.Num.A, .int .i64 r_1.Num.B, .int .i64 r_1.Num.C, .int .i64 r_1.Num.D, .int .i64 r_1.Exp], 5⟩, ⟨some ⟨b1, 0, none⟩, 44, [.int .i64 0, .int .i64 0, .int .i64 0, .int .i64 0, .int .i64 0], 5⟩, ⟨some ⟨b2, 0, none⟩, 44, [.int .i64 1, .int .i64 0, .int .i64 0, .int .i64 0, .int .i64 1], 5⟩] [] := hS16
          refine ⟨(ST.sel hS16 [0, 1, 2] rfl rfl), ?_⟩
          refine ra_all (rs := [2]) (by kernel_rfl) rfl ?_
          refine ra_c 30 (i := 2) rfl rfl rfl (Yc_func (g := 143) (vs := [.int .i64 2]) k_call_143 rfl (mc rfl mn) (c_spec_l2Power 2 _  (hS16.inn0 [] rfl) hc3)) ?_ ?_
          · rintro _ w_11 ⟨rfl, hd3⟩
            have hS17 := hS16.out00 hd3
            have hS17 : ST w0 [] _ [⟨some ⟨b, 0, none⟩, 44, [.int .i64 r_1.Num.A, .int .i64 r_1.Num.B, .int .i64 r_1.Num.C, .int .i64 r_1.Num.D, .int .i64 r_1.Exp], 5⟩, ⟨some ⟨b1, 0, none⟩, 44, [.int .i64 0, .int .i64 0, .int .i64 0, .int .i64 0, .int .i64 0], 5⟩, ⟨some ⟨b2, 0, none⟩, 44, [.int .i64 1, .int .i64 0, .int .i64 0, .int .i64 0, .int .i64 1], 5⟩] [] := hS17
            refine ⟨(ST.sel hS17 [0, 1, 2] rfl rfl), ?_⟩
            refine ra_all (rs := [4]) (by kernel_rfl) rfl ?_
            refine ra_s 32 (i := 4) rfl rfl rfl (Ys_bslice (s := 5) (len := 4) (vs := [(0, .agg #[.int .i64 0, .int .i64 0, .int .i64 0, .int .i64 0, .int .i64 0]), (1, .agg #[.int .i64 r_3.Num.A, .int .i64 r_3.Num.B, .int .i64 r_3.Num.C, .int .i64 r_3.Num.D, .int .i64 r_3.Exp]), (2, .agg #[.int .i64 r_4.Num.A, .int .i64 r_4.Num.B, .int .i64 r_4.Num.C, .int .i64 r_4.Num.D, .int .i64 r_4.Exp]), (3, .agg #[.int .i64 0, .int .i64 0, .int .i64 0, .int .i64 0, .int .i64 0])]) (cs := [.int .i64 0, .int .i64 0, .int .i64 0, .int .i64 0, .int .i64 0, .int .i64 r_3.Num.A, .int .i64 r_3.Num.B, .int .i64 r_3.Num.C, .int .i64 r_3.Num.D, .int .i64 r_3.Exp, .int .i64 r_4.Num.A, .int .i64 r_4.Num.B, .int .i64 r_4.Num.C, .int .i64 r_4.Num.D, .int .i64 r_4.Exp, .int .i64 0, .int .i64 0, .int .i64 0, .int .i64 0, .int .i64 0]) (zs := [.int .i64 0, .int .i64 0, .int .i64 0, .int .i64 0, .int .i64 0, .int .i64 0, .int .i64 0, .int .i64 0, .int .i64 0, .int .i64 0, .int .i64 0, .int .i64 0, .int .i64 0, .int .i64 0, .int .i64 0, .int .i64 0, .int .i64 0, .int .i64 0, .int .i64 0, .int .i64 0]) (m := 20) hS17 k_sl_24_44 k_sz_44_5 k_zc_44 rfl (mpc rfl (mpc rfl (mpc rfl (mpc rfl mpn)))) rfl rfl rfl (by kernel_rfl) (by kernel_rfl) rfl) ?_ ?_
            · rintro _ w_12 ⟨b5, rfl, hS18⟩
              have hS18 : ST w0 [] _ [⟨some ⟨b, 0, none⟩, 44, [.int .i64 r_1.Num.A, .int .i64 r_1.Num.B, .int .i64 r_1.Num.C, .int .i64 r_1.Num.D, .int .i64 r_1.Exp], 5⟩, ⟨some ⟨b1, 0, none⟩, 44, [.int .i64 0, .int .i64 0, .int .i64 0, .int .i64 0, .int .i64 0], 5⟩, ⟨some ⟨b2, 0, none⟩, 44, [.int .i64 1, .int .i64 0, .int .i64 0, .int .i64 0, .int .i64 1], 5⟩, ⟨some ⟨b5, 0, none⟩, 44, ([(TDyadic.mk (TRing.mk 0 0 0 0) 0), r_3, r_4, (TDyadic.mk (TRing.mk 0 0 0 0) 0)].flatMap enc_Dyadic), 4 * 5⟩] [] := hS18
              refine ⟨(ST.sel hS18 [0, 1, 2] rfl rfl), ?_⟩
              refine ra_q 5 2 (v := .slice (some ⟨b5, 0, none⟩) 4 4) rfl rfl rfl (by kernel_rfl) (by kernel_rfl) (by kernel_rfl) (ST.sel hS18 [0, 1, 2] rfl rfl) (fun w' hw' => (Y_assign (v := .slice (some ⟨b5, 0, none⟩) 4 4) rfl rfl)) ?_
              refine ra_done (by kernel_rfl) ?_
              refine cw_ret ?_
              obtain rfl := some_inj hF5
              exact ret1 Try.results174 (v1 := .slice (some ⟨b5, 0, none⟩) 4 4) (resAt_tmp rfl) ⟨some ⟨b5, 0, none⟩, 4, rfl, (ST.subR (R' := []) (hS18.sel [3] rfl rfl) (fun _ h => by cases h))⟩
            exact allR_nil
          exact allR_nil
        exact allR_nil
      · skip
        have hF6 := cf' hF4 hb2
        refine cw_skip ?_
        refine cw_seq ?_
        obtain ⟨x, hx, hF6⟩ := bind_inv hF6
        obtain ⟨r_5, hc4, hF6⟩ := bind_inv hF6
        refine ra_start (ST.sel hS7 [0, 1, 2] rfl rfl).fn (by kernel_rfl) ?_
        have hS20 := hS7.drew
        refine ra_q 0 33 (v := .agg #[.int .i64 r_1.Num.A, .int .i64 r_1.Num.B, .int .i64 r_1.Num.C, .int .i64 r_1.Num.D, .int .i64 r_1.Exp]) rfl rfl rfl (by kernel_rfl) (by kernel_rfl) (by kernel_rfl) (ST.sel hS20 [0, 1, 2] rfl rfl) (fun w' hw' => (Y_loadA (B := some ⟨b, 0, none⟩) (i := 0) (cs := [.int .i64 r_1.Num.A, .int .i64 r_1.Num.B, .int .i64 r_1.Num.C, .int .i64 r_1.Num.D, .int .i64 r_1.Exp]) (vs := [.int .i64 r_1.Num.A, .int .i64 r_1.Num.B, .int .i64 r_1.Num.C, .int .i64 r_1.Num.D, .int .i64 r_1.Exp]) k_ag_44 k_sz_44_5 rfl rfl (ST.cf hw' (i := 0) rfl) rfl rfl)) ?_
        refine ra_q 1 34 (v := .agg #[.int .i64 0, .int .i64 0, .int .i64 0, .int .i64 0, .int .i64 0]) rfl rfl rfl (by kernel_rfl) (by kernel_rfl) (by kernel_rfl) (ST.sel hS20 [0, 1, 2] rfl rfl) (fun w' hw' => (Y_loadA (B := some ⟨b1, 0, none⟩) (i := 0) (cs := [.int .i64 0, .int .i64 0, .int .i64 0, .int .i64 0, .int .i64 0]) (vs := [.int .i64 0, .int .i64 0, .int .i64 0, .int .i64 0, .int .i64 0]) k_ag_44 k_sz_44_5 rfl rfl (ST.cf hw' (i := 1) rfl) rfl rfl)) ?_
        refine ra_q 2 35 (v := .agg #[.int .i64 0, .int .i64 0, .int .i64 0, .int .i64 0, .int .i64 0]) rfl rfl rfl (by kernel_rfl) (by kernel_rfl) (by kernel_rfl) (ST.sel hS20 [0, 1, 2] rfl rfl) (fun w' hw' => (Y_loadA (B := some ⟨b1, 0, none⟩) (i := 0) (cs := [.int .i64 0, .int .i64 0, .int .i64 0, .int .i64 0, .int .i64 0]) (vs := [.int .i64 0, .int .i64 0, .int .i64 0, .int .i64 0, .int .i64 0]) k_ag_44 k_sz_44_5 rfl rfl (ST.cf hw' (i := 1) rfl) rfl rfl)) ?_
        refine ra_q 4 37 (v := .int .i64 kind) rfl rfl rfl (by kernel_rfl) (by kernel_rfl) (by kernel_rfl) (ST.sel hS20 [0, 1, 2] rfl rfl) (fun w' hw' => (Y_move (v := .int .i64 kind) rfl rfl)) ?_
        refine ra_q 5 38 (v := .int .i64 (IntKind.i64.wrap (kind - 4))) rfl rfl rfl (by kernel_rfl) (by kernel_rfl) (by kernel_rfl) (ST.sel hS20 [0, 1, 2] rfl rfl) (fun w' hw' => (Y_sub (k := .i64) (a := kind) (b := 4) rfl rfl rfl)) ?_
        refine ra_all (rs := [3]) (by kernel_rfl) rfl ?_
        refine ra_s 36 (i := 3) rfl rfl rfl (Ys_bslice (s := 1) (len := 5) (vs := [(0, .int .i64 4), (1, .int .i64 2), (2, .int .i64 6), (3, .int .i64 1), (4, .int .i64 7)]) (cs := [.int .i64 4, .int .i64 2, .int .i64 6, .int .i64 1, .int .i64 7]) (zs := [.int .i64 0, .int .i64 0, .int .i64 0, .int .i64 0, .int .i64 0]) (m := 5) hS20 k_sl_48_3 k_sz_3_1 k_zc_3 rfl (mpc rfl (mpc rfl (mpc rfl (mpc rfl (mpc rfl mpn))))) rfl rfl rfl (by kernel_rfl) (by kernel_rfl) rfl) ?_ ?_
        · rintro _ w_13 ⟨b6, rfl, hS21⟩
          have hS21 : ST w0 [] _ [⟨some ⟨b, 0, none⟩, 44, [.int .i64 r_1.Num.A, .int .i64 r_1.Num.B, .int .i64 r_1.Num.C, .int .i64 r_1.Num.D, .int .i64 r_1.Exp], 5⟩, ⟨some ⟨b1, 0, none⟩, 44, [.int .i64 0, .int .i64 0, .int .i64 0, .int .i64 0, .int .i64 0], 5⟩, ⟨some ⟨b2, 0, none⟩, 44, [.int .i64 1, .int .i64 0, .int .i64 0, .int .i64 0, .int .i64 1], 5⟩, ⟨some ⟨b6, 0, none⟩, 3, ([4, 2, 6, 1, 7].flatMap encI), 5 * 1⟩] [] := hS21
          refine ⟨(ST.sel hS21 [0, 1, 2] rfl rfl), ?_⟩
          refine ra_all (rs := [6]) (by kernel_rfl) rfl ?_
          refine ra_y 39 (i := 6) (v := pt (some ⟨b6, 0, none⟩) ((IntKind.i64.wrap (kind - 4)).toNat * 1)) rfl rfl rfl (Y_index (B := some ⟨b6, 0, none⟩) (m := 5) (c := 5) (k := .i64) (i := (IntKind.i64.wrap (kind - 4))) k_sl_48_3 k_sz_3_1 rfl rfl rfl (gi_isSome encI_len rfl (hS21.cf (i := 3) rfl) hx) (getI_nn hx) (getI_ltI hx rfl)) (ST.sel hS21 [0, 1, 2] rfl rfl) ?_ ?_
          · skip
            refine ra_all (rs := [7]) (by kernel_rfl) rfl ?_
            refine ra_y 40 (i := 7) (v := .int .i64 x) rfl rfl rfl (Y_load1 (B := some ⟨b6, 0, none⟩) (i := (IntKind.i64.wrap (kind - 4)).toNat * 1) (cs := ([4, 2, 6, 1, 7].flatMap encI)) (v := .int .i64 x) k_sc_3 rfl rfl (hS21.cf (i := 3) rfl) (gi_at0 encI_len hx rfl)) (ST.sel hS21 [0, 1, 2] rfl rfl) ?_ ?_
            · skip
              refine ra_all (rs := [8]) (by kernel_rfl) rfl ?_
              refine ra_c 41 (i := 8) rfl rfl rfl (Yc_func (g := 143) (vs := [.int .i64 x]) k_call_143 rfl (mc rfl mn) (c_spec_l2Power x _  (hS21.inn0 [] rfl) hc4)) ?_ ?_
              · rintro _ w_14 ⟨rfl, hd4⟩
                have hS22 := hS21.out00 hd4
                have hS22 : ST w0 [] _ [⟨some ⟨b, 0, none⟩, 44, [.int .i64 r_1.Num.A, .int .i64 r_1.Num.B, .int .i64 r_1.Num.C, .int .i64 r_1.Num.D, .int .i64 r_1.Exp], 5⟩, ⟨some ⟨b1, 0, none⟩, 44, [.int .i64 0, .int .i64 0, .int .i64 0, .int .i64 0, .int .i64 0], 5⟩, ⟨some ⟨b2, 0, none⟩, 44, [.int .i64 1, .int .i64 0, .int .i64 0, .int .i64 0, .int .i64 1], 5⟩, ⟨some ⟨b6, 0, none⟩, 3, ([4, 2, 6, 1, 7].flatMap encI), 5 * 1⟩] [] := hS22
                refine ⟨(ST.sel hS22 [0, 1, 2] rfl rfl), ?_⟩
                refine ra_all (rs := [9]) (by kernel_rfl) rfl ?_
                refine ra_s 42 (i := 9) rfl rfl rfl (Ys_bslice (s := 5) (len := 4) (vs := [(0, .agg #[.int .i64 r_1.Num.A, .int .i64 r_1.Num.B, .int .i64 r_1.Num.C, .int .i64 r_1.Num.D, .int .i64 r_1.Exp]), (1, .agg #[.int .i64 0, .int .i64 0, .int .i64 0, .int .i64 0, .int .i64 0]), (2, .agg #[.int .i64 0, .int .i64 0, .int .i64 0, .int .i64 0, .int .i64 0]), (3, .agg #[.int .i64 r_5.Num.A, .int .i64 r_5.Num.B, .int .i64 r_5.Num.C, .int .i64 r_5.Num.D, .int .i64 r_5.Exp])]) (cs := [.int .i64 r_1.Num.A, .int .i64 r_1.Num.B, .int .i64 r_1.Num.C, .int .i64 r_1.Num.D, .int .i64 r_1.Exp, .int .i64 0, .int .i64 0, .int .i64 0, .int .i64 0, .int .i64 0, .int .i64 0, .int .i64 0, .int .i64 0, .int .i64 0, .int .i64 0, .int .i64 r_5.Num.A, .int .i64 r_5.Num.B, .int .i64 r_5.Num.C, .int .i64 r_5.Num.D, .int .i64 r_5.Exp]) (zs := [.int .i64 0, .int .i64 0, .int .i64 0, .int .i64 0, .int .i64 0, .int .i64 0, .int .i64 0, .int .i64 0, .int .i64 0, .int .i64 0, .int .i64 0, .int .i64 0, .int .i64 0, .int .i64 0, .int .i64 0, .int .i64 0, .int .i64 0, .int .i64 0, .int .i64 0, .int .i64 0]) (m := 20) hS22 k_sl_24_44 k_sz_44_5 k_zc_44 rfl (mpc rfl (mpc rfl (mpc rfl (mpc rfl mpn)))) rfl rfl rfl (by kernel_rfl) (by kernel_rfl) rfl) ?_ ?_
                · rintro _ w_15 ⟨b7, rfl, hS23⟩
                  have hS23 : ST w0 [] _ [⟨some ⟨b, 0, none⟩, 44, [.int .i64 r_1.Num.A, .int .i64 r_1.Num.B, .int .i64 r_1.Num.C, .int .i64 r_1.Num.D, .int .i64 r_1.Exp], 5⟩, ⟨some ⟨b1, 0, none⟩, 44, [.int .i64 0, .int .i64 0, .int .i64 0, .int .i64 0, .int .i64 0], 5⟩, ⟨some ⟨b2, 0, none⟩, 44, [.int .i64 1, .int .i64 0, .int .i64 0, .int .i64 0, .int .i64 1], 5⟩, ⟨some ⟨b6, 0, none⟩, 3, ([4, 2, 6, 1, 7].flatMap encI), 5 * 1⟩, ⟨some ⟨b7, 0, none⟩, 44, ([r_1, (TDyadic.mk (TRing.mk 0 0 0 0) 0), (TDyadic.mk (TRing.mk 0 0 0 0) 0), r_5].flatMap enc_Dyadic), 4 * 5⟩] [] := hS23
                  refine ⟨(ST.sel hS23 [0, 1, 2] rfl rfl), ?_⟩
                  refine ra_q 10 2 (v := .slice (some ⟨b7, 0, none⟩) 4 4) rfl rfl rfl (by kernel_rfl) (by kernel_rfl) (by kernel_rfl) (ST.sel hS23 [0, 1, 2] rfl rfl) (fun w' hw' => (Y_assign (v := .slice (some ⟨b7, 0, none⟩) 4 4) rfl rfl)) ?_
                  refine ra_done (by kernel_rfl) ?_
                  refine cw_ret ?_
                  obtain rfl := some_inj hF6
                  exact ret1 Try.results174 (v1 := .slice (some ⟨b7, 0, none⟩) 4 4) (resAt_tmp rfl) ⟨some ⟨b7, 0, none⟩, 4, rfl, (ST.subR (R' := []) (hS23.sel [4] rfl rfl) (fun _ h => by cases h))⟩
                exact allR_nil
              exact allR_nil
            exact allR_nil
          exact allR_nil
        exact allR_nil

theorem c_spec_l6Cell (n : Int) (g : TGate) (row : Int) (col : Int)  (w0 : World)  (hS : ST w0 [] w0 [] []) {r_ : TDyadic} (hF : F_spec_l6Cell n g row col = some r_) :
    CV Try.prog 172 #[.int .i64 n, .agg #[.int .i64 g.Kind, .int .i64 g.A, .int .i64 g.B], .int .i64 row, .int .i64 col] w0 (fun v w' => v = .agg #[.int .i64 r_.Num.A, .int .i64 r_.Num.B, .int .i64 r_.Num.C, .int .i64 r_.Num.D, .int .i64 r_.Exp] ∧ ST w0 [] w' [] []) := by
  unfold F_spec_l6Cell at hF
  refine cv_of_cw 119 Try.func172 rfl Try.ntmps172 rfl ?_
  refine cw_seq ?_
  refine cw_region ?_
  refine ss 5 rfl rfl (Ys_box (T := 124) (v := .agg #[.int .i64 g.Kind, .int .i64 g.A, .int .i64 g.B]) (cs := [.int .i64 g.Kind, .int .i64 g.A, .int .i64 g.B]) (m := 3) hS rfl rfl rfl rfl) ?_
  rintro _ w_ ⟨b, rfl, hS1⟩
  refine ss 8 rfl rfl (Ys_alloc (T := 44) (cs := [.int .i64 0, .int .i64 0, .int .i64 0, .int .i64 0, .int .i64 0]) (m := 5) hS1 k_zero_44 rfl rfl rfl) ?_
  rintro _ w_1 ⟨b1, rfl, hS2⟩
  have hS2 : ST w0 [] _ [⟨some ⟨b, 0, none⟩, 124, [.int .i64 g.Kind, .int .i64 g.A, .int .i64 g.B], 3⟩, ⟨some ⟨b1, 0, none⟩, 44, [.int .i64 0, .int .i64 0, .int .i64 0, .int .i64 0, .int .i64 0], 5⟩] [] := hS2
  refine rw_nil ?_
  refine cw_seq ?_
  refine cw_region ?_
  obtain ⟨r_1, hc, hF⟩ := bind_inv hF
  refine sc 12 rfl rfl (Yc_func (g := 143) (vs := [.int .i64 0]) k_call_143 rfl (mc rfl mn) (c_spec_l2Power 0 _  (hS2.inn0 [] rfl) hc)) ?_
  rintro _ w_2 ⟨rfl, hd⟩
  have hS3 := hS2.out00 hd
  have hS3 : ST w0 [] _ [⟨some ⟨b, 0, none⟩, 124, [.int .i64 g.Kind, .int .i64 g.A, .int .i64 g.B], 3⟩, ⟨some ⟨b1, 0, none⟩, 44, [.int .i64 0, .int .i64 0, .int .i64 0, .int .i64 0, .int .i64 0], 5⟩] [] := hS3
  refine sq 13 rfl rfl (Y_buildS (zs := [.int .i64 0, .int .i64 0, .int .i64 0, .int .i64 0, .int .i64 0]) (vs := []) (cs := [.int .i64 0, .int .i64 0, .int .i64 0, .int .i64 0, .int .i64 0]) k_pl_44 k_zero_44 rfl mpn rfl) ?_
  refine ss 9 rfl rfl (Ys_alloc (T := 44) (cs := [.int .i64 0, .int .i64 0, .int .i64 0, .int .i64 0, .int .i64 0]) (m := 5) hS3 k_zero_44 rfl rfl rfl) ?_
  rintro _ w_3 ⟨b2, rfl, hS4⟩
  have hS4 : ST w0 [] _ [⟨some ⟨b, 0, none⟩, 124, [.int .i64 g.Kind, .int .i64 g.A, .int .i64 g.B], 3⟩, ⟨some ⟨b1, 0, none⟩, 44, [.int .i64 0, .int .i64 0, .int .i64 0, .int .i64 0, .int .i64 0], 5⟩, ⟨some ⟨b2, 0, none⟩, 44, [.int .i64 0, .int .i64 0, .int .i64 0, .int .i64 0, .int .i64 0], 5⟩] [] := hS4
  refine ss 10 rfl rfl (Ys_alloc (T := 44) (cs := [.int .i64 0, .int .i64 0, .int .i64 0, .int .i64 0, .int .i64 0]) (m := 5) hS4 k_zero_44 rfl rfl rfl) ?_
  rintro _ w_4 ⟨b3, rfl, hS5⟩
  have hS5 : ST w0 [] _ [⟨some ⟨b, 0, none⟩, 124, [.int .i64 g.Kind, .int .i64 g.A, .int .i64 g.B], 3⟩, ⟨some ⟨b1, 0, none⟩, 44, [.int .i64 0, .int .i64 0, .int .i64 0, .int .i64 0, .int .i64 0], 5⟩, ⟨some ⟨b2, 0, none⟩, 44, [.int .i64 0, .int .i64 0, .int .i64 0, .int .i64 0, .int .i64 0], 5⟩, ⟨some ⟨b3, 0, none⟩, 44, [.int .i64 0, .int .i64 0, .int .i64 0, .int .i64 0, .int .i64 0], 5⟩] [] := hS5
  refine ss0 rfl rfl (Ys_store (i := 2) (s := 5) (B := some ⟨b2, 0, none⟩) (T' := 44) (v := .agg #[.int .i64 r_1.Num.A, .int .i64 r_1.Num.B, .int .i64 r_1.Num.C, .int .i64 r_1.Num.D, .int .i64 r_1.Exp]) (vs := [.int .i64 r_1.Num.A, .int .i64 r_1.Num.B, .int .i64 r_1.Num.C, .int .i64 r_1.Num.D, .int .i64 r_1.Exp]) (k := 0) (cs' := [.int .i64 r_1.Num.A, .int .i64 r_1.Num.B, .int .i64 r_1.Num.C, .int .i64 r_1.Num.D, .int .i64 r_1.Exp]) hS5 k_sz_44_5 rfl rfl rfl rfl rfl rfl rfl (Nat.le_of_ble_eq_true rfl) rfl rfl) ?_
  rintro _ w_5 ⟨rfl, hS6⟩
  have hS6 : ST w0 [] _ [⟨some ⟨b, 0, none⟩, 124, [.int .i64 g.Kind, .int .i64 g.A, .int .i64 g.B], 3⟩, ⟨some ⟨b1, 0, none⟩, 44, [.int .i64 0, .int .i64 0, .int .i64 0, .int .i64 0, .int .i64 0], 5⟩, ⟨some ⟨b2, 0, none⟩, 44, [.int .i64 r_1.Num.A, .int .i64 r_1.Num.B, .int .i64 r_1.Num.C, .int .i64 r_1.Num.D, .int .i64 r_1.Exp], 5⟩, ⟨some ⟨b3, 0, none⟩, 44, [.int .i64 0, .int .i64 0, .int .i64 0, .int .i64 0, .int .i64 0], 5⟩] [] := hS6
  refine ss0 rfl rfl (Ys_store (i := 3) (s := 5) (B := some ⟨b3, 0, none⟩) (T' := 44) (v := .agg #[.int .i64 0, .int .i64 0, .int .i64 0, .int .i64 0, .int .i64 0]) (vs := [.int .i64 0, .int .i64 0, .int .i64 0, .int .i64 0, .int .i64 0]) (k := 0) (cs' := [.int .i64 0, .int .i64 0, .int .i64 0, .int .i64 0, .int .i64 0]) hS6 k_sz_44_5 rfl rfl rfl rfl rfl rfl rfl (Nat.le_of_ble_eq_true rfl) rfl rfl) ?_
  rintro _ w_6 ⟨rfl, hS7⟩
  have hS7 : ST w0 [] _ [⟨some ⟨b, 0, none⟩, 124, [.int .i64 g.Kind, .int .i64 g.A, .int .i64 g.B], 3⟩, ⟨some ⟨b1, 0, none⟩, 44, [.int .i64 0, .int .i64 0, .int .i64 0, .int .i64 0, .int .i64 0], 5⟩, ⟨some ⟨b2, 0, none⟩, 44, [.int .i64 r_1.Num.A, .int .i64 r_1.Num.B, .int .i64 r_1.Num.C, .int .i64 r_1.Num.D, .int .i64 r_1.Exp], 5⟩, ⟨some ⟨b3, 0, none⟩, 44, [.int .i64 0, .int .i64 0, .int .i64 0, .int .i64 0, .int .i64 0], 5⟩] [] := hS7
  refine rw_nil ?_
  refine cw_seq ?_
  refine cw_region ?_
  refine sq 14 rfl rfl (Y_move (v := .int .i64 col) rfl rfl) ?_
  refine sq 11 rfl rfl (Y_assign (v := .int .i64 col) rfl rfl) ?_
  refine rw_nil ?_
  refine cw_seq ?_
  obtain ⟨z, hz, hF1⟩ := bind_inv hF
  refine cw_mid (fun f w => ∃ (A : Int) (B : Int) (C : Int) (D : Int) (Exp : Int) (to_ : Int), .inl (A, B, C, D, Exp, to_) = z ∧ FF f [(2, .int .i64 row), (8, pt (some ⟨b1, 0, none⟩) 0), (9, pt (some ⟨b2, 0, none⟩) 0), (10, pt (some ⟨b3, 0, none⟩) 0), (11, .int .i64 to_)] ∧ ST w0 [] w [⟨some ⟨b1, 0, none⟩, 44, [.int .i64 0, .int .i64 0, .int .i64 0, .int .i64 0, .int .i64 0], 5⟩, ⟨some ⟨b2, 0, none⟩, 44, [.int .i64 A, .int .i64 B, .int .i64 C, .int .i64 D, .int .i64 Exp], 5⟩, ⟨some ⟨b3, 0, none⟩, 44, [.int .i64 0, .int .i64 0, .int .i64 0, .int .i64 0, .int .i64 0], 5⟩] []) ?_ ?_
  · skip
    refine cw_seq ?_
    refine cw_region ?_
    refine sq 15 rfl rfl (Y_fieldAddr (B := some ⟨b, 0, none⟩) (i := 0) (s := 0) k_fd_124_0_0_3 k_sz_3_1 rfl rfl) ?_
    refine sq 16 rfl rfl (Y_load1 (B := some ⟨b, 0, none⟩) (i := 0) (cs := [.int .i64 g.Kind, .int .i64 g.A, .int .i64 g.B]) (v := .int .i64 g.Kind) k_sc_3 rfl rfl (hS7.cf (i := 0) rfl) rfl) ?_
    refine rw_nil ?_
    refine cw_block ?_
    refine cw_seq ?_
    refine cw_region ?_
    refine sq 48 rfl rfl (Y_eq (k := .i64) (a := g.Kind) (b := 12) rfl rfl rfl) ?_
    refine sq 47 rfl rfl (Y_assign (v := .bool (g.Kind == 12)) rfl rfl) ?_
    refine rw_nil ?_
    refine cw_cond (b := (g.Kind == 12)) rfl (fun hb => ?_) (fun hb => ?_)
    · skip
      have hF2 := ct hz hb
      refine cw_region ?_
      obtain ⟨r_2, hc1, hF2⟩ := bind_inv hF2
      refine sc 49 rfl rfl (Yc_func (g := 143) (vs := [.int .i64 1]) k_call_143 rfl (mc rfl mn) (c_spec_l2Power 1 _  (hS7.inn0 [] rfl) hc1)) ?_
      rintro _ w_7 ⟨rfl, hd1⟩
      have hS9 := hS7.out00 hd1
      have hS9 : ST w0 [] _ [⟨some ⟨b, 0, none⟩, 124, [.int .i64 g.Kind, .int .i64 g.A, .int .i64 g.B], 3⟩, ⟨some ⟨b1, 0, none⟩, 44, [.int .i64 0, .int .i64 0, .int .i64 0, .int .i64 0, .int .i64 0], 5⟩, ⟨some ⟨b2, 0, none⟩, 44, [.int .i64 r_1.Num.A, .int .i64 r_1.Num.B, .int .i64 r_1.Num.C, .int .i64 r_1.Num.D, .int .i64 r_1.Exp], 5⟩, ⟨some ⟨b3, 0, none⟩, 44, [.int .i64 0, .int .i64 0, .int .i64 0, .int .i64 0, .int .i64 0], 5⟩] [] := hS9
      refine ss0 rfl rfl (Ys_store (i := 2) (s := 5) (B := some ⟨b2, 0, none⟩) (T' := 44) (v := .agg #[.int .i64 r_2.Num.A, .int .i64 r_2.Num.B, .int .i64 r_2.Num.C, .int .i64 r_2.Num.D, .int .i64 r_2.Exp]) (vs := [.int .i64 r_2.Num.A, .int .i64 r_2.Num.B, .int .i64 r_2.Num.C, .int .i64 r_2.Num.D, .int .i64 r_2.Exp]) (k := 0) (cs' := [.int .i64 r_2.Num.A, .int .i64 r_2.Num.B, .int .i64 r_2.Num.C, .int .i64 r_2.Num.D, .int .i64 r_2.Exp]) hS9 k_sz_44_5 rfl rfl rfl rfl rfl rfl rfl (Nat.le_of_ble_eq_true rfl) rfl rfl) ?_
      rintro _ w_8 ⟨rfl, hS10⟩
      have hS10 : ST w0 [] _ [⟨some ⟨b, 0, none⟩, 124, [.int .i64 g.Kind, .int .i64 g.A, .int .i64 g.B], 3⟩, ⟨some ⟨b1, 0, none⟩, 44, [.int .i64 0, .int .i64 0, .int .i64 0, .int .i64 0, .int .i64 0], 5⟩, ⟨some ⟨b2, 0, none⟩, 44, [.int .i64 r_2.Num.A, .int .i64 r_2.Num.B, .int .i64 r_2.Num.C, .int .i64 r_2.Num.D, .int .i64 r_2.Exp], 5⟩, ⟨some ⟨b3, 0, none⟩, 44, [.int .i64 0, .int .i64 0, .int .i64 0, .int .i64 0, .int .i64 0], 5⟩] [] := hS10
      refine rw_nil ?_
      exact ⟨r_2.Num.A, r_2.Num.B, r_2.Num.C, r_2.Num.D, r_2.Exp, col, (some_inj hF2), (FF.cons rfl (FF.cons rfl (FF.cons rfl (FF.cons rfl (FF.cons rfl FF.nil))))), (hS10.sel [1, 2, 3] rfl rfl)⟩
    · skip
      have hF3 := cf' hz hb
      refine cw_seq ?_
      refine cw_region ?_
      refine sq 51 rfl rfl (Y_eq (k := .i64) (a := g.Kind) (b := 9) rfl rfl rfl) ?_
      refine sq 50 rfl rfl (Y_assign (v := .bool (g.Kind == 9)) rfl rfl) ?_
      refine rw_nil ?_
      refine cw_cond (b := (g.Kind == 9)) rfl (fun hb1 => ?_) (fun hb1 => ?_)
      · skip
        have hF4 := ct hF3 hb1
        refine cw_seq ?_
        refine cw_region ?_
        refine sq 52 rfl rfl (Y_move (v := .int .i64 n) rfl rfl) ?_
        refine sq 53 rfl rfl (Y_move (v := .int .i64 col) rfl rfl) ?_
        refine sq 54 rfl rfl (Y_fieldAddr (B := some ⟨b, 0, none⟩) (i := 0) (s := 0) k_fd_124_1_1_3 k_sz_3_1 rfl rfl) ?_
        refine sq 55 rfl rfl (Y_load1 (B := some ⟨b, 0, none⟩) (i := 1) (cs := [.int .i64 g.Kind, .int .i64 g.A, .int .i64 g.B]) (v := .int .i64 g.A) k_sc_3 rfl rfl (hS7.cf (i := 0) rfl) rfl) ?_
        obtain ⟨r_3, hc2, hF4⟩ := bind_inv hF4
        refine sc 56 rfl rfl (Yc_func (g := 173) (vs := [.int .i64 n, .int .i64 col, .int .i64 g.A]) k_call_173 rfl (mc rfl (mc rfl (mc rfl mn))) (c_spec_l6Bit n col g.A _  (hS7.inn0 [] rfl) hc2)) ?_
        rintro _ w_9 ⟨rfl, hd2⟩
        have hS11 := hS7.out00 hd2
        have hS11 : ST w0 [] _ [⟨some ⟨b, 0, none⟩, 124, [.int .i64 g.Kind, .int .i64 g.A, .int .i64 g.B], 3⟩, ⟨some ⟨b1, 0, none⟩, 44, [.int .i64 0, .int .i64 0, .int .i64 0, .int .i64 0, .int .i64 0], 5⟩, ⟨some ⟨b2, 0, none⟩, 44, [.int .i64 r_1.Num.A, .int .i64 r_1.Num.B, .int .i64 r_1.Num.C, .int .i64 r_1.Num.D, .int .i64 r_1.Exp], 5⟩, ⟨some ⟨b3, 0, none⟩, 44, [.int .i64 0, .int .i64 0, .int .i64 0, .int .i64 0, .int .i64 0], 5⟩] [] := hS11
        refine sq 57 rfl rfl (Y_eq (k := .i64) (a := r_3) (b := 1) rfl rfl rfl) ?_
        refine rw_nil ?_
        refine cw_cond (b := (r_3 == 1)) rfl (fun hb2 => ?_) (fun hb2 => ?_)
        · skip
          have hF5 := ct hF4 hb2
          refine cw_region ?_
          refine sq 58 rfl rfl (Y_move (v := .int .i64 col) rfl rfl) ?_
          refine sq 59 rfl rfl (Y_move (v := .int .i64 n) rfl rfl) ?_
          refine sq 60 rfl rfl (Y_sub (k := .i64) (a := n) (b := 1) rfl rfl rfl) ?_
          refine sq 61 rfl rfl (Y_fieldAddr (B := some ⟨b, 0, none⟩) (i := 0) (s := 0) k_fd_124_2_2_3 k_sz_3_1 rfl rfl) ?_
          refine sq 62 rfl rfl (Y_load1 (B := some ⟨b, 0, none⟩) (i := 2) (cs := [.int .i64 g.Kind, .int .i64 g.A, .int .i64 g.B]) (v := .int .i64 g.B) k_sc_3 rfl rfl (hS11.cf (i := 0) rfl) rfl) ?_
          refine sq 63 rfl rfl (Y_sub (k := .i64) (a := (IntKind.i64.wrap (n - 1))) (b := g.B) rfl rfl rfl) ?_
          refine sq 64 rfl rfl (Y_conv (k := .i64) (a := (IntKind.i64.wrap ((IntKind.i64.wrap (n - 1)) - g.B))) (T := 3) (T' := 63) k_us_3 k_int_63_u64 rfl rfl) ?_
          obtain ⟨hsh, hF5⟩ := chk_inv hF5
          refine sq 65 rfl rfl (Y_shl (k := .i64) (a := 1) (k' := .u64) (b := (IntKind.u64.wrap (IntKind.i64.wrap ((IntKind.i64.wrap (n - 1)) - g.B)))) rfl rfl rfl hsh) ?_
          refine sq 66 rfl rfl (Y_bxor (k := .i64) (a := col) (b := (shlK .i64 1 (IntKind.u64.wrap (IntKind.i64.wrap ((IntKind.i64.wrap (n - 1)) - g.B))))) rfl rfl rfl) ?_
          refine sq 11 rfl rfl (Y_assign (v := .int .i64 (bits .xor .i64 col (shlK .i64 1 (IntKind.u64.wrap (IntKind.i64.wrap ((IntKind.i64.wrap (n - 1)) - g.B)))))) rfl rfl) ?_
          refine rw_nil ?_
          exact ⟨r_1.Num.A, r_1.Num.B, r_1.Num.C, r_1.Num.D, r_1.Exp, (bits .xor .i64 col (shlK .i64 1 (IntKind.u64.wrap (IntKind.i64.wrap ((IntKind.i64.wrap (n - 1)) - g.B))))), (some_inj hF5), (FF.cons rfl (FF.cons rfl (FF.cons rfl (FF.cons rfl (FF.cons rfl FF.nil))))), (hS11.sel [1, 2, 3] rfl rfl)⟩
        · skip
          have hF6 := cf' hF4 hb2
          refine cw_skip ?_
          exact ⟨r_1.Num.A, r_1.Num.B, r_1.Num.C, r_1.Num.D, r_1.Exp, col, (some_inj hF6), (FF.cons rfl (FF.cons rfl (FF.cons rfl (FF.cons rfl (FF.cons rfl FF.nil))))), (hS11.sel [1, 2, 3] rfl rfl)⟩
      · skip
        have hF7 := cf' hF3 hb1
        refine cw_seq ?_
        refine cw_region ?_
        refine sq 68 rfl rfl (Y_eq (k := .i64) (a := g.Kind) (b := 10) rfl rfl rfl) ?_
        refine sq 67 rfl rfl (Y_assign (v := .bool (g.Kind == 10)) rfl rfl) ?_
        refine rw_nil ?_
        refine cw_cond (b := (g.Kind == 10)) rfl (fun hb3 => ?_) (fun hb3 => ?_)
        · skip
          have hF8 := ct hF7 hb3
          refine cw_seq ?_
          refine cw_region ?_
          refine sq 69 rfl rfl (Y_move (v := .int .i64 n) rfl rfl) ?_
          refine sq 70 rfl rfl (Y_move (v := .int .i64 col) rfl rfl) ?_
          refine sq 71 rfl rfl (Y_fieldAddr (B := some ⟨b, 0, none⟩) (i := 0) (s := 0) k_fd_124_1_1_3 k_sz_3_1 rfl rfl) ?_
          refine sq 72 rfl rfl (Y_load1 (B := some ⟨b, 0, none⟩) (i := 1) (cs := [.int .i64 g.Kind, .int .i64 g.A, .int .i64 g.B]) (v := .int .i64 g.A) k_sc_3 rfl rfl (hS7.cf (i := 0) rfl) rfl) ?_
          obtain ⟨r_4, hc3, hF8⟩ := bind_inv hF8
          refine sc 73 rfl rfl (Yc_func (g := 173) (vs := [.int .i64 n, .int .i64 col, .int .i64 g.A]) k_call_173 rfl (mc rfl (mc rfl (mc rfl mn))) (c_spec_l6Bit n col g.A _  (hS7.inn0 [] rfl) hc3)) ?_
          rintro _ w_10 ⟨rfl, hd3⟩
          have hS12 := hS7.out00 hd3
          have hS12 : ST w0 [] _ [⟨some ⟨b, 0, none⟩, 124, [.int .i64 g.Kind, .int .i64 g.A, .int .i64 g.B], 3⟩, ⟨some ⟨b1, 0, none⟩, 44, [.int .i64 0, .int .i64 0, .int .i64 0, .int .i64 0, .int .i64 0], 5⟩, ⟨some ⟨b2, 0, none⟩, 44, [.int .i64 r_1.Num.A, .int .i64 r_1.Num.B, .int .i64 r_1.Num.C, .int .i64 r_1.Num.D, .int .i64 r_1.Exp], 5⟩, ⟨some ⟨b3, 0, none⟩, 44, [.int .i64 0, .int .i64 0, .int .i64 0, .int .i64 0, .int .i64 0], 5⟩] [] := hS12
          refine sq 74 rfl rfl (Y_eq (k := .i64) (a := r_4) (b := 1) rfl rfl rfl) ?_
          refine sq 75 rfl rfl (Y_move (v := .bool (r_4 == 1)) rfl rfl) ?_
          refine sgq 76 (B := (r_4 == 1)) (v := .int .i64 n) rfl rfl (wt_t (gd_of (t := 75) (by kernel_rfl) rfl)) (fun hg => (Y_move (v := .int .i64 n) rfl rfl)) ?_
          refine sgq 77 (B := (r_4 == 1)) (v := .int .i64 col) rfl rfl (wt_t (gd_of (t := 75) (by kernel_rfl) rfl)) (fun hg1 => (Y_move (v := .int .i64 col) rfl rfl)) ?_
          refine sgq 78 (B := (r_4 == 1)) (v := pt (some ⟨b, 0, none⟩) 2) rfl rfl (wt_t (gd_of (t := 75) (by kernel_rfl) rfl)) (fun hg2 => (Y_fieldAddr (B := some ⟨b, 0, none⟩) (i := 0) (s := 0) k_fd_124_2_2_3 k_sz_3_1 rfl rfl)) ?_
          refine sgq 79 (B := (r_4 == 1)) (v := .int .i64 g.B) rfl rfl (wt_t (gd_of (t := 75) (by kernel_rfl) rfl)) (fun hg3 => (Y_load1 (B := some ⟨b, 0, none⟩) (i := 2) (cs := [.int .i64 g.Kind, .int .i64 g.A, .int .i64 g.B]) (v := .int .i64 g.B) k_sc_3 rfl (gv_of (B := (r_4 == 1)) (v := pt (some ⟨b, 0, none⟩) 2) hg3) (hS12.cf (i := 0) rfl) rfl)) ?_
          obtain ⟨r_5, hc4, hF8⟩ := bind_inv hF8
          refine sgc 80 (B := (r_4 == 1)) (v := .int .i64 r_5) (F := hS12.fn) rfl rfl (wt_t (gd_of (t := 75) (by kernel_rfl) rfl)) hS12 (fun hg4 => (Yc_func (g := 173) (vs := [.int .i64 n, .int .i64 col, .int .i64 g.B]) k_call_173 rfl (mc (gv_of (B := (r_4 == 1)) (v := .int .i64 n) hg4) (mc (gv_of (B := (r_4 == 1)) (v := .int .i64 col) hg4) (mc (gv_of (B := (r_4 == 1)) (v := .int .i64 g.B) hg4) mn))) (CV.mono (c_spec_l6Bit n col g.B _  (hS12.inn0 [] rfl) (gb_inv hc4 hg4)) (by rintro _ _ ⟨rfl, h⟩; exact ⟨rfl, hS12.out00 h⟩)))) ?_
          rintro w_11 hS13
          have hS13 : ST _ _ w_11 _ _ := hS13
          refine sgq 81 (B := (r_4 == 1)) (v := .bool (r_5 == 1)) rfl rfl (wt_t (gd_of (t := 75) (by kernel_rfl) rfl)) (fun hg5 => (Y_eq (k := .i64) (a := r_5) (b := 1) rfl (gv_of (B := (r_4 == 1)) (v := .int .i64 r_5) hg5) rfl)) ?_
          refine sq 82 rfl rfl (Y_and (b := (r_4 == 1)) (z := (r_5 == 1)) rfl rfl rfl rfl) ?_
          refine rw_nil ?_
          refine cw_cond (b := ((r_4 == 1) && (r_5 == 1))) rfl (fun hb4 => ?_) (fun hb4 => ?_)
          · skip
            have hF9 := ct hF8 hb4
            refine cw_region ?_
            obtain ⟨r_6, hc5, hF9⟩ := bind_inv hF9
            refine sc 83 rfl rfl (Yc_func (g := 143) (vs := [.int .i64 4]) k_call_143 rfl (mc rfl mn) (c_spec_l2Power 4 _  (hS13.inn0 [] rfl) hc5)) ?_
            rintro _ w_12 ⟨rfl, hd4⟩
            have hS14 := hS13.out00 hd4
            have hS14 : ST w0 [] _ [⟨some ⟨b, 0, none⟩, 124, [.int .i64 g.Kind, .int .i64 g.A, .int .i64 g.B], 3⟩, ⟨some ⟨b1, 0, none⟩, 44, [.int .i64 0, .int .i64 0, .int .i64 0, .int .i64 0, .int .i64 0], 5⟩, ⟨some ⟨b2, 0, none⟩, 44, [.int .i64 r_1.Num.A, .int .i64 r_1.Num.B, .int .i64 r_1.Num.C, .int .i64 r_1.Num.D, .int .i64 r_1.Exp], 5⟩, ⟨some ⟨b3, 0, none⟩, 44, [.int .i64 0, .int .i64 0, .int .i64 0, .int .i64 0, .int .i64 0], 5⟩] [] := hS14
            refine ss0 rfl rfl (Ys_store (i := 2) (s := 5) (B := some ⟨b2, 0, none⟩) (T' := 44) (v := .agg #[.int .i64 r_6.Num.A, .int .i64 r_6.Num.B, .int .i64 r_6.Num.C, .int .i64 r_6.Num.D, .int .i64 r_6.Exp]) (vs := [.int .i64 r_6.Num.A, .int .i64 r_6.Num.B, .int .i64 r_6.Num.C, .int .i64 r_6.Num.D, .int .i64 r_6.Exp]) (k := 0) (cs' := [.int .i64 r_6.Num.A, .int .i64 r_6.Num.B, .int .i64 r_6.Num.C, .int .i64 r_6.Num.D, .int .i64 r_6.Exp]) hS14 k_sz_44_5 rfl rfl rfl rfl rfl rfl rfl (Nat.le_of_ble_eq_true rfl) rfl rfl) ?_
            rintro _ w_13 ⟨rfl, hS15⟩
            have hS15 : ST w0 [] _ [⟨some ⟨b, 0, none⟩, 124, [.int .i64 g.Kind, .int .i64 g.A, .int .i64 g.B], 3⟩, ⟨some ⟨b1, 0, none⟩, 44, [.int .i64 0, .int .i64 0, .int .i64 0, .int .i64 0, .int .i64 0], 5⟩, ⟨some ⟨b2, 0, none⟩, 44, [.int .i64 r_6.Num.A, .int .i64 r_6.Num.B, .int .i64 r_6.Num.C, .int .i64 r_6.Num.D, .int .i64 r_6.Exp], 5⟩, ⟨some ⟨b3, 0, none⟩, 44, [.int .i64 0, .int .i64 0, .int .i64 0, .int .i64 0, .int .i64 0], 5⟩] [] := hS15
            refine rw_nil ?_
            exact ⟨r_6.Num.A, r_6.Num.B, r_6.Num.C, r_6.Num.D, r_6.Exp, col, (some_inj hF9), (FF.cons rfl (FF.cons rfl (FF.cons rfl (FF.cons rfl (FF.cons rfl FF.nil))))), (hS15.sel [1, 2, 3] rfl rfl)⟩
          · skip
            have hF10 := cf' hF8 hb4
            refine cw_skip ?_
            exact ⟨r_1.Num.A, r_1.Num.B, r_1.Num.C, r_1.Num.D, r_1.Exp, col, (some_inj hF10), (FF.cons rfl (FF.cons rfl (FF.cons rfl (FF.cons rfl (FF.cons rfl FF.nil))))), (hS13.sel [1, 2, 3] rfl rfl)⟩
        · skip
          have hF11 := cf' hF7 hb3
          refine cw_seq ?_
          refine cw_region ?_
          refine sq 85 rfl rfl (Y_eq (k := .i64) (a := g.Kind) (b := 11) rfl rfl rfl) ?_
          refine sq 84 rfl rfl (Y_assign (v := .bool (g.Kind == 11)) rfl rfl) ?_
          refine rw_nil ?_
          refine cw_cond (b := (g.Kind == 11)) rfl (fun hb5 => ?_) (fun hb5 => ?_)
          · skip
            have hF12 := ct hF11 hb5
            refine cw_seq ?_
            obtain ⟨r_7, hc6, hF12⟩ := bind_inv hF12
            obtain ⟨r_8, hc7, hF12⟩ := bind_inv hF12
            refine ra_start (ST.sel hS7 [0, 1, 2, 3] rfl rfl).fn (by kernel_rfl) ?_
            have hS18 := hS7.drew
            refine ra_q 0 86 (v := .int .i64 n) rfl rfl rfl (by kernel_rfl) (by kernel_rfl) (by kernel_rfl) (ST.sel hS18 [0, 1, 2, 3] rfl rfl) (fun w' hw' => (Y_move (v := .int .i64 n) rfl rfl)) ?_
            refine ra_q 1 87 (v := .int .i64 col) rfl rfl rfl (by kernel_rfl) (by kernel_rfl) (by kernel_rfl) (ST.sel hS18 [0, 1, 2, 3] rfl rfl) (fun w' hw' => (Y_move (v := .int .i64 col) rfl rfl)) ?_
            refine ra_q 2 88 (v := pt (some ⟨b, 0, none⟩) 1) rfl rfl rfl (by kernel_rfl) (by kernel_rfl) (by kernel_rfl) (ST.sel hS18 [0, 1, 2, 3] rfl rfl) (fun w' hw' => (Y_fieldAddr (B := some ⟨b, 0, none⟩) (i := 0) (s := 0) k_fd_124_1_1_3 k_sz_3_1 rfl rfl)) ?_
            refine ra_q 3 89 (v := .int .i64 g.A) rfl rfl rfl (by kernel_rfl) (by kernel_rfl) (by kernel_rfl) (ST.sel hS18 [0, 1, 2, 3] rfl rfl) (fun w' hw' => (Y_load1 (B := some ⟨b, 0, none⟩) (i := 1) (cs := [.int .i64 g.Kind, .int .i64 g.A, .int .i64 g.B]) (v := .int .i64 g.A) k_sc_3 rfl rfl (ST.cf hw' (i := 0) rfl) rfl)) ?_
            refine ra_q 5 91 (v := .int .i64 n) rfl rfl rfl (by kernel_rfl) (by kernel_rfl) (by kernel_rfl) (ST.sel hS18 [0, 1, 2, 3] rfl rfl) (fun w' hw' => (Y_move (v := .int .i64 n) rfl rfl)) ?_
            refine ra_q 6 92 (v := .int .i64 col) rfl rfl rfl (by kernel_rfl) (by kernel_rfl) (by kernel_rfl) (ST.sel hS18 [0, 1, 2, 3] rfl rfl) (fun w' hw' => (Y_move (v := .int .i64 col) rfl rfl)) ?_
            refine ra_q 7 93 (v := pt (some ⟨b, 0, none⟩) 2) rfl rfl rfl (by kernel_rfl) (by kernel_rfl) (by kernel_rfl) (ST.sel hS18 [0, 1, 2, 3] rfl rfl) (fun w' hw' => (Y_fieldAddr (B := some ⟨b, 0, none⟩) (i := 0) (s := 0) k_fd_124_2_2_3 k_sz_3_1 rfl rfl)) ?_
            refine ra_q 8 94 (v := .int .i64 g.B) rfl rfl rfl (by kernel_rfl) (by kernel_rfl) (by kernel_rfl) (ST.sel hS18 [0, 1, 2, 3] rfl rfl) (fun w' hw' => (Y_load1 (B := some ⟨b, 0, none⟩) (i := 2) (cs := [.int .i64 g.Kind, .int .i64 g.A, .int .i64 g.B]) (v := .int .i64 g.B) k_sc_3 rfl rfl (ST.cf hw' (i := 0) rfl) rfl)) ?_
            refine ra_all (rs := [4]) (by kernel_rfl) rfl ?_
            refine ra_c 90 (i := 4) rfl rfl rfl (Yc_func (g := 173) (vs := [.int .i64 n, .int .i64 col, .int .i64 g.A]) k_call_173 rfl (mc rfl (mc rfl (mc rfl mn))) (c_spec_l6Bit n col g.A _  (hS18.inn0 [] rfl) hc6)) ?_ ?_
            · rintro _ w_14 ⟨rfl, hd5⟩
              have hS19 := hS18.out00 hd5
              have hS19 : ST w0 [] _ [⟨some ⟨b, 0, none⟩, 124, [.int .i64 g.Kind, .int .i64 g.A, .int .i64 g.B], 3⟩, ⟨some ⟨b1, 0, none⟩, 44, [.int .i64 0, .int .i64 0, .int .i64 0, .int .i64 0, .int .i64 0], 5⟩, ⟨some ⟨b2, 0, none⟩, 44, [.int .i64 r_1.Num.A, .int .i64 r_1.Num.B, .int .i64 r_1.Num.C, .int .i64 r_1.Num.D, .int .i64 r_1.Exp], 5⟩, ⟨some ⟨b3, 0, none⟩, 44, [.int .i64 0, .int .i64 0, .int .i64 0, .int .i64 0, .int .i64 0], 5⟩] [] := hS19
              refine ⟨(ST.sel hS19 [0, 1, 2, 3] rfl rfl), ?_⟩
              refine ra_all (rs := [9]) (by kernel_rfl) rfl ?_
              refine ra_c 95 (i := 9) rfl rfl rfl (Yc_func (g := 173) (vs := [.int .i64 n, .int .i64 col, .int .i64 g.B]) k_call_173 rfl (mc rfl (mc rfl (mc rfl mn))) (c_spec_l6Bit n col g.B _  (hS19.inn0 [] rfl) hc7)) ?_ ?_
              · rintro _ w_15 ⟨rfl, hd6⟩
                have hS20 := hS19.out00 hd6
                have hS20 : ST w0 [] _ [⟨some ⟨b, 0, none⟩, 124, [.int .i64 g.Kind, .int .i64 g.A, .int .i64 g.B], 3⟩, ⟨some ⟨b1, 0, none⟩, 44, [.int .i64 0, .int .i64 0, .int .i64 0, .int .i64 0, .int .i64 0], 5⟩, ⟨some ⟨b2, 0, none⟩, 44, [.int .i64 r_1.Num.A, .int .i64 r_1.Num.B, .int .i64 r_1.Num.C, .int .i64 r_1.Num.D, .int .i64 r_1.Exp], 5⟩, ⟨some ⟨b3, 0, none⟩, 44, [.int .i64 0, .int .i64 0, .int .i64 0, .int .i64 0, .int .i64 0], 5⟩] [] := hS20
                refine ⟨(ST.sel hS20 [0, 1, 2, 3] rfl rfl), ?_⟩
                refine ra_q 10 96 (v := .bool (r_7 != r_8)) rfl rfl rfl (by kernel_rfl) (by kernel_rfl) (by kernel_rfl) (ST.sel hS20 [0, 1, 2, 3] rfl rfl) (fun w' hw' => (Y_ne (k := .i64) (a := r_7) (b := r_8) rfl rfl rfl)) ?_
                refine ra_done (by kernel_rfl) ?_
                refine cw_cond (b := (r_7 != r_8)) rfl (fun hb6 => ?_) (fun hb6 => ?_)
                · skip
                  have hF13 := ct hF12 hb6
                  refine cw_region ?_
                  refine sq 97 rfl rfl (Y_move (v := .int .i64 col) rfl rfl) ?_
                  refine sq 98 rfl rfl (Y_move (v := .int .i64 n) rfl rfl) ?_
                  refine sq 99 rfl rfl (Y_sub (k := .i64) (a := n) (b := 1) rfl rfl rfl) ?_
                  refine sq 100 rfl rfl (Y_fieldAddr (B := some ⟨b, 0, none⟩) (i := 0) (s := 0) k_fd_124_1_1_3 k_sz_3_1 rfl rfl) ?_
                  refine sq 101 rfl rfl (Y_load1 (B := some ⟨b, 0, none⟩) (i := 1) (cs := [.int .i64 g.Kind, .int .i64 g.A, .int .i64 g.B]) (v := .int .i64 g.A) k_sc_3 rfl rfl (hS20.cf (i := 0) rfl) rfl) ?_
                  refine sq 102 rfl rfl (Y_sub (k := .i64) (a := (IntKind.i64.wrap (n - 1))) (b := g.A) rfl rfl rfl) ?_
                  refine sq 103 rfl rfl (Y_conv (k := .i64) (a := (IntKind.i64.wrap ((IntKind.i64.wrap (n - 1)) - g.A))) (T := 3) (T' := 63) k_us_3 k_int_63_u64 rfl rfl) ?_
                  obtain ⟨hsh1, hF13⟩ := chk_inv hF13
                  refine sq 104 rfl rfl (Y_shl (k := .i64) (a := 1) (k' := .u64) (b := (IntKind.u64.wrap (IntKind.i64.wrap ((IntKind.i64.wrap (n - 1)) - g.A)))) rfl rfl rfl hsh1) ?_
                  refine sq 105 rfl rfl (Y_bxor (k := .i64) (a := col) (b := (shlK .i64 1 (IntKind.u64.wrap (IntKind.i64.wrap ((IntKind.i64.wrap (n - 1)) - g.A))))) rfl rfl rfl) ?_
                  refine sq 106 rfl rfl (Y_move (v := .int .i64 n) rfl rfl) ?_
                  refine sq 107 rfl rfl (Y_sub (k := .i64) (a := n) (b := 1) rfl rfl rfl) ?_
                  refine sq 108 rfl rfl (Y_fieldAddr (B := some ⟨b, 0, none⟩) (i := 0) (s := 0) k_fd_124_2_2_3 k_sz_3_1 rfl rfl) ?_
                  refine sq 109 rfl rfl (Y_load1 (B := some ⟨b, 0, none⟩) (i := 2) (cs := [.int .i64 g.Kind, .int .i64 g.A, .int .i64 g.B]) (v := .int .i64 g.B) k_sc_3 rfl rfl (hS20.cf (i := 0) rfl) rfl) ?_
                  refine sq 110 rfl rfl (Y_sub (k := .i64) (a := (IntKind.i64.wrap (n - 1))) (b := g.B) rfl rfl rfl) ?_
                  refine sq 111 rfl rfl (Y_conv (k := .i64) (a := (IntKind.i64.wrap ((IntKind.i64.wrap (n - 1)) - g.B))) (T := 3) (T' := 63) k_us_3 k_int_63_u64 rfl rfl) ?_
                  obtain ⟨hsh2, hF13⟩ := chk_inv hF13
                  refine sq 112 rfl rfl (Y_shl (k := .i64) (a := 1) (k' := .u64) (b := (IntKind.u64.wrap (IntKind.i64.wrap ((IntKind.i64.wrap (n - 1)) - g.B)))) rfl rfl rfl hsh2) ?_
                  refine sq 113 rfl rfl (Y_bxor (k := .i64) (a := (bits .xor .i64 col (shlK .i64 1 (IntKind.u64.wrap (IntKind.i64.wrap ((IntKind.i64.wrap (n - 1)) - g.A)))))) (b := (shlK .i64 1 (IntKind.u64.wrap (IntKind.i64.wrap ((IntKind.i64.wrap (n - 1)) - g.B))))) rfl rfl rfl) ?_
                  refine sq 11 rfl rfl (Y_assign (v := .int .i64 (bits .xor .i64 (bits .xor .i64 col (shlK .i64 1 (IntKind.u64.wrap (IntKind.i64.wrap ((IntKind.i64.wrap (n - 1)) - g.A))))) (shlK .i64 1 (IntKind.u64.wrap (IntKind.i64.wrap ((IntKind.i64.wrap (n - 1)) - g.B)))))) rfl rfl) ?_
                  refine rw_nil ?_
                  exact ⟨r_1.Num.A, r_1.Num.B, r_1.Num.C, r_1.Num.D, r_1.Exp, (bits .xor .i64 (bits .xor .i64 col (shlK .i64 1 (IntKind.u64.wrap (IntKind.i64.wrap ((IntKind.i64.wrap (n - 1)) - g.A))))) (shlK .i64 1 (IntKind.u64.wrap (IntKind.i64.wrap ((IntKind.i64.wrap (n - 1)) - g.B))))), (some_inj hF13), (FF.cons rfl (FF.cons rfl (FF.cons rfl (FF.cons rfl (FF.cons rfl FF.nil))))), (hS20.sel [1, 2, 3] rfl rfl)⟩
                · skip
                  have hF14 := cf' hF12 hb6
                  refine cw_skip ?_
                  exact ⟨r_1.Num.A, r_1.Num.B, r_1.Num.C, r_1.Num.D, r_1.Exp, col, (some_inj hF14), (FF.cons rfl (FF.cons rfl (FF.cons rfl (FF.cons rfl (FF.cons rfl FF.nil))))), (hS20.sel [1, 2, 3] rfl rfl)⟩
              exact allR_nil
            exact allR_nil
          · skip
            have hF15 := cf' hF11 hb5
            refine cw_seq ?_
            refine cw_seq ?_
            refine cw_region ?_
            refine sq 17 rfl rfl (Y_move (v := .int .i64 row) rfl rfl) ?_
            refine sq 18 rfl rfl (Y_move (v := .int .i64 col) rfl rfl) ?_
            refine sq 19 rfl rfl (Y_bxor (k := .i64) (a := row) (b := col) rfl rfl rfl) ?_
            refine sq 20 rfl rfl (Y_move (v := .int .i64 n) rfl rfl) ?_
            refine sq 21 rfl rfl (Y_sub (k := .i64) (a := n) (b := 1) rfl rfl rfl) ?_
            refine sq 22 rfl rfl (Y_fieldAddr (B := some ⟨b, 0, none⟩) (i := 0) (s := 0) k_fd_124_1_1_3 k_sz_3_1 rfl rfl) ?_
            refine sq 23 rfl rfl (Y_load1 (B := some ⟨b, 0, none⟩) (i := 1) (cs := [.int .i64 g.Kind, .int .i64 g.A, .int .i64 g.B]) (v := .int .i64 g.A) k_sc_3 rfl rfl (hS7.cf (i := 0) rfl) rfl) ?_
            refine sq 24 rfl rfl (Y_sub (k := .i64) (a := (IntKind.i64.wrap (n - 1))) (b := g.A) rfl rfl rfl) ?_
            refine sq 25 rfl rfl (Y_conv (k := .i64) (a := (IntKind.i64.wrap ((IntKind.i64.wrap (n - 1)) - g.A))) (T := 3) (T' := 63) k_us_3 k_int_63_u64 rfl rfl) ?_
            obtain ⟨hsh3, hF15⟩ := chk_inv hF15
            refine sq 26 rfl rfl (Y_shl (k := .i64) (a := 1) (k' := .u64) (b := (IntKind.u64.wrap (IntKind.i64.wrap ((IntKind.i64.wrap (n - 1)) - g.A)))) rfl rfl rfl hsh3) ?_
            refine sq 27 rfl rfl (Y_bandNot (k := .i64) (a := (bits .xor .i64 row col)) (b := (shlK .i64 1 (IntKind.u64.wrap (IntKind.i64.wrap ((IntKind.i64.wrap (n - 1)) - g.A))))) rfl rfl rfl) ?_
            refine sq 28 rfl rfl (Y_ne (k := .i64) (a := (bits .andNot .i64 (bits .xor .i64 row col) (shlK .i64 1 (IntKind.u64.wrap (IntKind.i64.wrap ((IntKind.i64.wrap (n - 1)) - g.A)))))) (b := 0) rfl rfl rfl) ?_
            refine rw_nil ?_
            refine cw_cond (b := ((bits .andNot .i64 (bits .xor .i64 row col) (shlK .i64 1 (IntKind.u64.wrap (IntKind.i64.wrap ((IntKind.i64.wrap (n - 1)) - g.A))))) != 0)) rfl (fun hb7 => ?_) (fun hb7 => ?_)
            · skip
              have hF16 := ct hF15 hb7
              refine cw_seq ?_
              refine cw_region ?_
              refine sq 29 rfl rfl (Y_loadA (B := some ⟨b3, 0, none⟩) (i := 0) (cs := [.int .i64 0, .int .i64 0, .int .i64 0, .int .i64 0, .int .i64 0]) (vs := [.int .i64 0, .int .i64 0, .int .i64 0, .int .i64 0, .int .i64 0]) k_ag_44 k_sz_44_5 rfl rfl (hS7.cf (i := 3) rfl) rfl rfl) ?_
              refine ss0 rfl rfl (Ys_store (i := 1) (s := 5) (B := some ⟨b1, 0, none⟩) (T' := 44) (v := .agg #[.int .i64 0, .int .i64 0, .int .i64 0, .int .i64 0, .int .i64 0]) (vs := [.int .i64 0, .int .i64 0, .int .i64 0, .int .i64 0, .int .i64 0]) (k := 0) (cs' := [.int .i64 0, .int .i64 0, .int .i64 0, .int .i64 0, .int .i64 0]) hS7 k_sz_44_5 rfl rfl rfl rfl rfl rfl rfl (Nat.le_of_ble_eq_true rfl) rfl rfl) ?_
              rintro _ w_16 ⟨rfl, hS21⟩
              have hS21 : ST w0 [] _ [⟨some ⟨b, 0, none⟩, 124, [.int .i64 g.Kind, .int .i64 g.A, .int .i64 g.B], 3⟩, ⟨some ⟨b1, 0, none⟩, 44, [.int .i64 0, .int .i64 0, .int .i64 0, .int .i64 0, .int .i64 0], 5⟩, ⟨some ⟨b2, 0, none⟩, 44, [.int .i64 r_1.Num.A, .int .i64 r_1.Num.B, .int .i64 r_1.Num.C, .int .i64 r_1.Num.D, .int .i64 r_1.Exp], 5⟩, ⟨some ⟨b3, 0, none⟩, 44, [.int .i64 0, .int .i64 0, .int .i64 0, .int .i64 0, .int .i64 0], 5⟩] [] := hS21
              refine rw_nil ?_
              refine cw_ret ?_
              obtain rfl := some_inj hF16
              obtain rfl := some_inj hF1
              exact ret1 Try.results172 (v1 := .agg #[.int .i64 0, .int .i64 0, .int .i64 0, .int .i64 0, .int .i64 0]) (resAt_cellA (B := some ⟨b1, 0, none⟩) (i := 0) (cs := [.int .i64 0, .int .i64 0, .int .i64 0, .int .i64 0, .int .i64 0]) (vs := [.int .i64 0, .int .i64 0, .int .i64 0, .int .i64 0, .int .i64 0]) rfl k_ag_44 k_sz_44_5 (hS21.cf (i := 1) rfl) rfl rfl) ⟨rfl, (ST.subR (R' := []) (hS21.sel [] rfl rfl) (fun _ h => by cases h))⟩
            · skip
              have hF17 := cf' hF15 hb7
              refine cw_skip ?_
              refine cw_seq ?_
              obtain ⟨r_9, hc8, hF17⟩ := bind_inv hF17
              obtain ⟨r_10, hc9, hF17⟩ := bind_inv hF17
              obtain ⟨r_11, hc10, hF17⟩ := bind_inv hF17
              obtain ⟨x, hx, hF17⟩ := bind_inv hF17
              refine ra_start (ST.sel hS7 [0, 2, 3] rfl rfl).fn (by kernel_rfl) ?_
              have hS25 := hS7.drew
              refine ra_q 0 30 (v := pt (some ⟨b, 0, none⟩) 0) rfl rfl rfl (by kernel_rfl) (by kernel_rfl) (by kernel_rfl) (ST.sel hS25 [0, 2, 3] rfl rfl) (fun w' hw' => (Y_fieldAddr (B := some ⟨b, 0, none⟩) (i := 0) (s := 0) k_fd_124_0_0_3 k_sz_3_1 rfl rfl)) ?_
              refine ra_q 1 31 (v := .int .i64 g.Kind) rfl rfl rfl (by kernel_rfl) (by kernel_rfl) (by kernel_rfl) (ST.sel hS25 [0, 2, 3] rfl rfl) (fun w' hw' => (Y_load1 (B := some ⟨b, 0, none⟩) (i := 0) (cs := [.int .i64 g.Kind, .int .i64 g.A, .int .i64 g.B]) (v := .int .i64 g.Kind) k_sc_3 rfl rfl (ST.cf hw' (i := 0) rfl) rfl)) ?_
              refine ra_q 3 33 (v := .int .i64 n) rfl rfl rfl (by kernel_rfl) (by kernel_rfl) (by kernel_rfl) (ST.sel hS25 [0, 2, 3] rfl rfl) (fun w' hw' => (Y_move (v := .int .i64 n) rfl rfl)) ?_
              refine ra_q 4 34 (v := .int .i64 row) rfl rfl rfl (by kernel_rfl) (by kernel_rfl) (by kernel_rfl) (ST.sel hS25 [0, 2, 3] rfl rfl) (fun w' hw' => (Y_move (v := .int .i64 row) rfl rfl)) ?_
              refine ra_q 5 35 (v := pt (some ⟨b, 0, none⟩) 1) rfl rfl rfl (by kernel_rfl) (by kernel_rfl) (by kernel_rfl) (ST.sel hS25 [0, 2, 3] rfl rfl) (fun w' hw' => (Y_fieldAddr (B := some ⟨b, 0, none⟩) (i := 0) (s := 0) k_fd_124_1_1_3 k_sz_3_1 rfl rfl)) ?_
              refine ra_q 6 36 (v := .int .i64 g.A) rfl rfl rfl (by kernel_rfl) (by kernel_rfl) (by kernel_rfl) (ST.sel hS25 [0, 2, 3] rfl rfl) (fun w' hw' => (Y_load1 (B := some ⟨b, 0, none⟩) (i := 1) (cs := [.int .i64 g.Kind, .int .i64 g.A, .int .i64 g.B]) (v := .int .i64 g.A) k_sc_3 rfl rfl (ST.cf hw' (i := 0) rfl) rfl)) ?_
              refine ra_q 9 39 (v := .int .i64 n) rfl rfl rfl (by kernel_rfl) (by kernel_rfl) (by kernel_rfl) (ST.sel hS25 [0, 2, 3] rfl rfl) (fun w' hw' => (Y_move (v := .int .i64 n) rfl rfl)) ?_
              refine ra_q 10 40 (v := .int .i64 col) rfl rfl rfl (by kernel_rfl) (by kernel_rfl) (by kernel_rfl) (ST.sel hS25 [0, 2, 3] rfl rfl) (fun w' hw' => (Y_move (v := .int .i64 col) rfl rfl)) ?_
              refine ra_q 11 41 (v := pt (some ⟨b, 0, none⟩) 1) rfl rfl rfl (by kernel_rfl) (by kernel_rfl) (by kernel_rfl) (ST.sel hS25 [0, 2, 3] rfl rfl) (fun w' hw' => (Y_fieldAddr (B := some ⟨b, 0, none⟩) (i := 0) (s := 0) k_fd_124_1_1_3 k_sz_3_1 rfl rfl)) ?_
              refine ra_q 12 42 (v := .int .i64 g.A) rfl rfl rfl (by kernel_rfl) (by kernel_rfl) (by kernel_rfl) (ST.sel hS25 [0, 2, 3] rfl rfl) (fun w' hw' => (Y_load1 (B := some ⟨b, 0, none⟩) (i := 1) (cs := [.int .i64 g.Kind, .int .i64 g.A, .int .i64 g.B]) (v := .int .i64 g.A) k_sc_3 rfl rfl (ST.cf hw' (i := 0) rfl) rfl)) ?_
              refine ra_all (rs := [2]) (by kernel_rfl) rfl ?_
              refine ra_c 32 (i := 2) rfl rfl rfl (Yc_func (g := 174) (vs := [.int .i64 g.Kind]) k_call_174 rfl (mc rfl mn) (c_spec_l6One g.Kind _  (hS25.inn0 [] rfl) hc8)) ?_ ?_
              · rintro _ w_17 ⟨B1, c, rfl, hd7⟩
                have hS26 := hS25.out0 hd7
                have hS26 : ST w0 [] _ [⟨some ⟨b, 0, none⟩, 124, [.int .i64 g.Kind, .int .i64 g.A, .int .i64 g.B], 3⟩, ⟨some ⟨b1, 0, none⟩, 44, [.int .i64 0, .int .i64 0, .int .i64 0, .int .i64 0, .int .i64 0], 5⟩, ⟨some ⟨b2, 0, none⟩, 44, [.int .i64 r_1.Num.A, .int .i64 r_1.Num.B, .int .i64 r_1.Num.C, .int .i64 r_1.Num.D, .int .i64 r_1.Exp], 5⟩, ⟨some ⟨b3, 0, none⟩, 44, [.int .i64 0, .int .i64 0, .int .i64 0, .int .i64 0, .int .i64 0], 5⟩, ⟨B1, 44, (r_9.flatMap enc_Dyadic), c * 5⟩] [] := hS26
                refine ⟨(ST.sel hS26 [0, 2, 3] rfl rfl), ?_⟩
                refine ra_all (rs := [7]) (by kernel_rfl) rfl ?_
                refine ra_c 37 (i := 7) rfl rfl rfl (Yc_func (g := 173) (vs := [.int .i64 n, .int .i64 row, .int .i64 g.A]) k_call_173 rfl (mc rfl (mc rfl (mc rfl mn))) (c_spec_l6Bit n row g.A _  (hS26.inn0 [] rfl) hc9)) ?_ ?_
                · rintro _ w_18 ⟨rfl, hd8⟩
                  have hS27 := hS26.out00 hd8
                  have hS27 : ST w0 [] _ [⟨some ⟨b, 0, none⟩, 124, [.int .i64 g.Kind, .int .i64 g.A, .int .i64 g.B], 3⟩, ⟨some ⟨b1, 0, none⟩, 44, [.int .i64 0, .int .i64 0, .int .i64 0, .int .i64 0, .int .i64 0], 5⟩, ⟨some ⟨b2, 0, none⟩, 44, [.int .i64 r_1.Num.A, .int .i64 r_1.Num.B, .int .i64 r_1.Num.C, .int .i64 r_1.Num.D, .int .i64 r_1.Exp], 5⟩, ⟨some ⟨b3, 0, none⟩, 44, [.int .i64 0, .int .i64 0, .int .i64 0, .int .i64 0, .int .i64 0], 5⟩, ⟨B1, 44, (r_9.flatMap enc_Dyadic), c * 5⟩] [] := hS27
                  refine ⟨(ST.sel hS27 [0, 2, 3] rfl rfl), ?_⟩
                  refine ra_q 8 38 (v := .int .i64 (IntKind.i64.wrap (2 * r_10))) rfl rfl rfl (by kernel_rfl) (by kernel_rfl) (by kernel_rfl) (ST.sel hS27 [0, 2, 3] rfl rfl) (fun w' hw' => (Y_mul (k := .i64) (a := 2) (b := r_10) rfl rfl rfl)) ?_
                  refine ra_all (rs := [13]) (by kernel_rfl) rfl ?_
                  refine ra_c 43 (i := 13) rfl rfl rfl (Yc_func (g := 173) (vs := [.int .i64 n, .int .i64 col, .int .i64 g.A]) k_call_173 rfl (mc rfl (mc rfl (mc rfl mn))) (c_spec_l6Bit n col g.A _  (hS27.inn0 [] rfl) hc10)) ?_ ?_
                  · rintro _ w_19 ⟨rfl, hd9⟩
                    have hS28 := hS27.out00 hd9
                    have hS28 : ST w0 [] _ [⟨some ⟨b, 0, none⟩, 124, [.int .i64 g.Kind, .int .i64 g.A, .int .i64 g.B], 3⟩, ⟨some ⟨b1, 0, none⟩, 44, [.int .i64 0, .int .i64 0, .int .i64 0, .int .i64 0, .int .i64 0], 5⟩, ⟨some ⟨b2, 0, none⟩, 44, [.int .i64 r_1.Num.A, .int .i64 r_1.Num.B, .int .i64 r_1.Num.C, .int .i64 r_1.Num.D, .int .i64 r_1.Exp], 5⟩, ⟨some ⟨b3, 0, none⟩, 44, [.int .i64 0, .int .i64 0, .int .i64 0, .int .i64 0, .int .i64 0], 5⟩, ⟨B1, 44, (r_9.flatMap enc_Dyadic), c * 5⟩] [] := hS28
                    refine ⟨(ST.sel hS28 [0, 2, 3] rfl rfl), ?_⟩
                    refine ra_q 14 44 (v := .int .i64 (IntKind.i64.wrap ((IntKind.i64.wrap (2 * r_10)) + r_11))) rfl rfl rfl (by kernel_rfl) (by kernel_rfl) (by kernel_rfl) (ST.sel hS28 [0, 2, 3] rfl rfl) (fun w' hw' => (Y_add (k := .i64) (a := (IntKind.i64.wrap (2 * r_10))) (b := r_11) rfl rfl rfl)) ?_
                    refine ra_all (rs := [15]) (by kernel_rfl) rfl ?_
                    refine ra_y 45 (i := 15) (v := pt B1 ((IntKind.i64.wrap ((IntKind.i64.wrap (2 * r_10)) + r_11)).toNat * 5)) rfl rfl rfl (Y_index (B := B1) (m := r_9.length) (c := c) (k := .i64) (i := (IntKind.i64.wrap ((IntKind.i64.wrap (2 * r_10)) + r_11))) k_sl_24_44 k_sz_44_5 rfl rfl rfl (gi_isSome enc_Dyadic_len rfl (hS28.cf (i := 4) rfl) hx) (getI_nn hx) (getI_ltI hx rfl)) (ST.sel hS28 [0, 2, 3] rfl rfl) ?_ ?_
                    · skip
                      refine ra_all (rs := [16]) (by kernel_rfl) rfl ?_
                      refine ra_y 46 (i := 16) (v := .agg #[.int .i64 x.Num.A, .int .i64 x.Num.B, .int .i64 x.Num.C, .int .i64 x.Num.D, .int .i64 x.Exp]) rfl rfl rfl (Y_loadA (B := B1) (i := (IntKind.i64.wrap ((IntKind.i64.wrap (2 * r_10)) + r_11)).toNat * 5) (cs := (r_9.flatMap enc_Dyadic)) (vs := [.int .i64 x.Num.A, .int .i64 x.Num.B, .int .i64 x.Num.C, .int .i64 x.Num.D, .int .i64 x.Exp]) k_ag_44 k_sz_44_5 rfl rfl (hS28.cf (i := 4) rfl) (enc_Dyadic_len x) (gi_seg enc_Dyadic_len hx)) (ST.sel hS28 [0, 2, 3] rfl rfl) ?_ ?_
                      · skip
                        refine ra_all (rs := [17]) (by kernel_rfl) rfl ?_
                        refine ra_s0 (i := 17) rfl rfl rfl (Ys_store (i := 1) (s := 5) (B := some ⟨b1, 0, none⟩) (T' := 44) (v := .agg #[.int .i64 x.Num.A, .int .i64 x.Num.B, .int .i64 x.Num.C, .int .i64 x.Num.D, .int .i64 x.Exp]) (vs := [.int .i64 x.Num.A, .int .i64 x.Num.B, .int .i64 x.Num.C, .int .i64 x.Num.D, .int .i64 x.Exp]) (k := 0) (cs' := [.int .i64 x.Num.A, .int .i64 x.Num.B, .int .i64 x.Num.C, .int .i64 x.Num.D, .int .i64 x.Exp]) hS28 k_sz_44_5 rfl rfl rfl rfl rfl rfl rfl (Nat.le_of_ble_eq_true rfl) rfl rfl) ?_ ?_
                        · rintro _ w_20 ⟨rfl, hS29⟩
                          have hS29 : ST w0 [] _ [⟨some ⟨b, 0, none⟩, 124, [.int .i64 g.Kind, .int .i64 g.A, .int .i64 g.B], 3⟩, ⟨some ⟨b1, 0, none⟩, 44, [.int .i64 x.Num.A, .int .i64 x.Num.B, .int .i64 x.Num.C, .int .i64 x.Num.D, .int .i64 x.Exp], 5⟩, ⟨some ⟨b2, 0, none⟩, 44, [.int .i64 r_1.Num.A, .int .i64 r_1.Num.B, .int .i64 r_1.Num.C, .int .i64 r_1.Num.D, .int .i64 r_1.Exp], 5⟩, ⟨some ⟨b3, 0, none⟩, 44, [.int .i64 0, .int .i64 0, .int .i64 0, .int .i64 0, .int .i64 0], 5⟩, ⟨B1, 44, (r_9.flatMap enc_Dyadic), c * 5⟩] [] := hS29
                          refine ⟨(ST.sel hS29 [0, 2, 3] rfl rfl), ?_⟩
                          refine ra_done (by kernel_rfl) ?_
                          refine cw_ret ?_
                          obtain rfl := some_inj hF17
                          obtain rfl := some_inj hF1
                          exact ret1 Try.results172 (v1 := .agg #[.int .i64 x.Num.A, .int .i64 x.Num.B, .int .i64 x.Num.C, .int .i64 x.Num.D, .int .i64 x.Exp]) (resAt_cellA (B := some ⟨b1, 0, none⟩) (i := 0) (cs := [.int .i64 x.Num.A, .int .i64 x.Num.B, .int .i64 x.Num.C, .int .i64 x.Num.D, .int .i64 x.Exp]) (vs := [.int .i64 x.Num.A, .int .i64 x.Num.B, .int .i64 x.Num.C, .int .i64 x.Num.D, .int .i64 x.Exp]) rfl k_ag_44 k_sz_44_5 (hS29.cf (i := 1) rfl) rfl rfl) ⟨rfl, (ST.subR (R' := []) (hS29.sel [] rfl rfl) (fun _ h => by cases h))⟩
                        exact allR_nil
                      exact allR_nil
                    exact allR_nil
                  exact allR_nil
                exact allR_nil
              exact allR_nil
  rintro f w ⟨A, B, C, D, Exp, to_, rfl, hf, hS8⟩
  refine cw_seq ?_
  refine cw_seq ?_
  refine cw_region ?_
  refine sq 114 rfl rfl (Y_move (v := .int .i64 row) rfl (hf.get 2 0 rfl)) ?_
  refine sq 115 rfl rfl (Y_move (v := .int .i64 to_) rfl (hf.get 11 4 rfl)) ?_
  refine sq 116 rfl rfl (Y_eq (k := .i64) (a := row) (b := to_) rfl rfl rfl) ?_
  refine rw_nil ?_
  refine cw_cond (b := (row == to_)) rfl (fun hb8 => ?_) (fun hb8 => ?_)
  · skip
    have hF18 := ct hF1 hb8
    refine cw_seq ?_
    refine cw_region ?_
    refine sq 117 rfl rfl (Y_loadA (B := some ⟨b2, 0, none⟩) (i := 0) (cs := [.int .i64 A, .int .i64 B, .int .i64 C, .int .i64 D, .int .i64 Exp]) (vs := [.int .i64 A, .int .i64 B, .int .i64 C, .int .i64 D, .int .i64 Exp]) k_ag_44 k_sz_44_5 rfl (hf.get 9 2 rfl) (hS8.cf (i := 1) rfl) rfl rfl) ?_
    refine ss0 rfl rfl (Ys_store (i := 0) (s := 5) (B := some ⟨b1, 0, none⟩) (T' := 44) (v := .agg #[.int .i64 A, .int .i64 B, .int .i64 C, .int .i64 D, .int .i64 Exp]) (vs := [.int .i64 A, .int .i64 B, .int .i64 C, .int .i64 D, .int .i64 Exp]) (k := 0) (cs' := [.int .i64 A, .int .i64 B, .int .i64 C, .int .i64 D, .int .i64 Exp]) hS8 k_sz_44_5 rfl (hf.get 8 1 rfl) rfl rfl rfl rfl rfl (Nat.le_of_ble_eq_true rfl) rfl rfl) ?_
    rintro _ w_21 ⟨rfl, hS30⟩
    have hS30 : ST w0 [] _ [⟨some ⟨b1, 0, none⟩, 44, [.int .i64 A, .int .i64 B, .int .i64 C, .int .i64 D, .int .i64 Exp], 5⟩, ⟨some ⟨b2, 0, none⟩, 44, [.int .i64 A, .int .i64 B, .int .i64 C, .int .i64 D, .int .i64 Exp], 5⟩, ⟨some ⟨b3, 0, none⟩, 44, [.int .i64 0, .int .i64 0, .int .i64 0, .int .i64 0, .int .i64 0], 5⟩] [] := hS30
    refine rw_nil ?_
    refine cw_ret ?_
    obtain rfl := some_inj hF18
    exact ret1 Try.results172 (v1 := .agg #[.int .i64 A, .int .i64 B, .int .i64 C, .int .i64 D, .int .i64 Exp]) (resAt_cellA (B := some ⟨b1, 0, none⟩) (i := 0) (cs := [.int .i64 A, .int .i64 B, .int .i64 C, .int .i64 D, .int .i64 Exp]) (vs := [.int .i64 A, .int .i64 B, .int .i64 C, .int .i64 D, .int .i64 Exp]) (hf.get 8 1 rfl) k_ag_44 k_sz_44_5 (hS30.cf (i := 0) rfl) rfl rfl) ⟨rfl, (ST.subR (R' := []) (hS30.sel [] rfl rfl) (fun _ h => by cases h))⟩
  · skip
    have hF19 := cf' hF1 hb8
    refine cw_skip ?_
    refine cw_seq ?_
    refine cw_region ?_
    refine sq 118 rfl rfl (Y_loadA (B := some ⟨b3, 0, none⟩) (i := 0) (cs := [.int .i64 0, .int .i64 0, .int .i64 0, .int .i64 0, .int .i64 0]) (vs := [.int .i64 0, .int .i64 0, .int .i64 0, .int .i64 0, .int .i64 0]) k_ag_44 k_sz_44_5 rfl (hf.get 10 3 rfl) (hS8.cf (i := 2) rfl) rfl rfl) ?_
    refine ss0 rfl rfl (Ys_store (i := 0) (s := 5) (B := some ⟨b1, 0, none⟩) (T' := 44) (v := .agg #[.int .i64 0, .int .i64 0, .int .i64 0, .int .i64 0, .int .i64 0]) (vs := [.int .i64 0, .int .i64 0, .int .i64 0, .int .i64 0, .int .i64 0]) (k := 0) (cs' := [.int .i64 0, .int .i64 0, .int .i64 0, .int .i64 0, .int .i64 0]) hS8 k_sz_44_5 rfl (hf.get 8 1 rfl) rfl rfl rfl rfl rfl (Nat.le_of_ble_eq_true rfl) rfl rfl) ?_
    rintro _ w_22 ⟨rfl, hS31⟩
    have hS31 : ST w0 [] _ [⟨some ⟨b1, 0, none⟩, 44, [.int .i64 0, .int .i64 0, .int .i64 0, .int .i64 0, .int .i64 0], 5⟩, ⟨some ⟨b2, 0, none⟩, 44, [.int .i64 A, .int .i64 B, .int .i64 C, .int .i64 D, .int .i64 Exp], 5⟩, ⟨some ⟨b3, 0, none⟩, 44, [.int .i64 0, .int .i64 0, .int .i64 0, .int .i64 0, .int .i64 0], 5⟩] [] := hS31
    refine rw_nil ?_
    refine cw_ret ?_
    obtain rfl := some_inj hF19
    exact ret1 Try.results172 (v1 := .agg #[.int .i64 0, .int .i64 0, .int .i64 0, .int .i64 0, .int .i64 0]) (resAt_cellA (B := some ⟨b1, 0, none⟩) (i := 0) (cs := [.int .i64 0, .int .i64 0, .int .i64 0, .int .i64 0, .int .i64 0]) (vs := [.int .i64 0, .int .i64 0, .int .i64 0, .int .i64 0, .int .i64 0]) (hf.get 8 1 rfl) k_ag_44 k_sz_44_5 (hS31.cf (i := 0) rfl) rfl rfl) ⟨rfl, (ST.subR (R' := []) (hS31.sel [] rfl rfl) (fun _ h => by cases h))⟩

theorem c_spec_l6Gate (n : Int) (g : TGate)  (w0 : World)  (hS : ST w0 [] w0 [] []) {r_ : TMatrix} (hF : F_spec_l6Gate n g = some r_) :
    CV Try.prog 166 #[.int .i64 n, .agg #[.int .i64 g.Kind, .int .i64 g.A, .int .i64 g.B]] w0 (fun v w' => ∃ (B : Option Addr) (c : Nat), v = .agg #[.int .i64 r_.Rows, .int .i64 r_.Cols, .slice B r_.Cells.length c] ∧ ST w0 [] w' [⟨B, 44, (r_.Cells.flatMap enc_Dyadic), c * 5⟩] []) := by
  unfold F_spec_l6Gate at hF
  refine cv_of_cw 36 Try.func166 rfl Try.ntmps166 rfl ?_
  refine cw_seq ?_
  refine cw_region ?_
  refine ss 3 rfl rfl (Ys_box (T := 124) (v := .agg #[.int .i64 g.Kind, .int .i64 g.A, .int .i64 g.B]) (cs := [.int .i64 g.Kind, .int .i64 g.A, .int .i64 g.B]) (m := 3) hS rfl rfl rfl rfl) ?_
  rintro _ w_ ⟨b, rfl, hS1⟩
  refine ss 4 rfl rfl (Ys_alloc (T := 26) (cs := [.int .i64 0, .int .i64 0, .slice none 0 0]) (m := 3) hS1 k_zero_26 rfl rfl rfl) ?_
  rintro _ w_1 ⟨b1, rfl, hS2⟩
  have hS2 : ST w0 [] _ [⟨some ⟨b, 0, none⟩, 124, [.int .i64 g.Kind, .int .i64 g.A, .int .i64 g.B], 3⟩, ⟨some ⟨b1, 0, none⟩, 26, [.int .i64 0, .int .i64 0, .slice none 0 0], 3⟩] [] := hS2
  refine rw_nil ?_
  refine cw_seq ?_
  refine cw_region ?_
  refine sq 9 rfl rfl (Y_move (v := .int .i64 n) rfl rfl) ?_
  refine sq 10 rfl rfl (Y_conv (k := .i64) (a := n) (T := 3) (T' := 63) k_us_3 k_int_63_u64 rfl rfl) ?_
  obtain ⟨hsh, hF⟩ := chk_inv hF
  refine sq 11 rfl rfl (Y_shl (k := .i64) (a := 1) (k' := .u64) (b := (IntKind.u64.wrap n)) rfl rfl rfl hsh) ?_
  refine sq 5 rfl rfl (Y_assign (v := .int .i64 (shlK .i64 1 (IntKind.u64.wrap n))) rfl rfl) ?_
  refine rw_nil ?_
  refine cw_seq ?_
  refine cw_region ?_
  refine sq 12 rfl rfl (Y_move (v := .int .i64 (shlK .i64 1 (IntKind.u64.wrap n))) rfl rfl) ?_
  refine sq 13 rfl rfl (Y_move (v := .int .i64 (shlK .i64 1 (IntKind.u64.wrap n))) rfl rfl) ?_
  refine sq 14 rfl rfl (Y_buildS (zs := [.int .i64 0, .int .i64 0, .slice none 0 0]) (vs := [(0, .int .i64 (shlK .i64 1 (IntKind.u64.wrap n))), (1, .int .i64 (shlK .i64 1 (IntKind.u64.wrap n)))]) (cs := [.int .i64 (shlK .i64 1 (IntKind.u64.wrap n)), .int .i64 (shlK .i64 1 (IntKind.u64.wrap n)), .slice none 0 0]) k_pl_26 k_zero_26 rfl (mpc rfl (mpc rfl mpn)) rfl) ?_
  refine ss 6 rfl rfl (Ys_alloc (T := 26) (cs := [.int .i64 0, .int .i64 0, .slice none 0 0]) (m := 3) hS2 k_zero_26 rfl rfl rfl) ?_
  rintro _ w_2 ⟨b2, rfl, hS3⟩
  have hS3 : ST w0 [] _ [⟨some ⟨b, 0, none⟩, 124, [.int .i64 g.Kind, .int .i64 g.A, .int .i64 g.B], 3⟩, ⟨some ⟨b1, 0, none⟩, 26, [.int .i64 0, .int .i64 0, .slice none 0 0], 3⟩, ⟨some ⟨b2, 0, none⟩, 26, [.int .i64 0, .int .i64 0, .slice none 0 0], 3⟩] [] := hS3
  refine ss0 rfl rfl (Ys_store (i := 2) (s := 3) (B := some ⟨b2, 0, none⟩) (T' := 26) (v := .agg #[.int .i64 (shlK .i64 1 (IntKind.u64.wrap n)), .int .i64 (shlK .i64 1 (IntKind.u64.wrap n)), .slice none 0 0]) (vs := [.int .i64 (shlK .i64 1 (IntKind.u64.wrap n)), .int .i64 (shlK .i64 1 (IntKind.u64.wrap n)), .slice none 0 0]) (k := 0) (cs' := [.int .i64 (shlK .i64 1 (IntKind.u64.wrap n)), .int .i64 (shlK .i64 1 (IntKind.u64.wrap n)), .slice none 0 0]) hS3 k_sz_26_3 rfl rfl rfl rfl rfl rfl rfl (Nat.le_of_ble_eq_true rfl) rfl rfl) ?_
  rintro _ w_3 ⟨rfl, hS4⟩
  have hS4 : ST w0 [] _ [⟨some ⟨b, 0, none⟩, 124, [.int .i64 g.Kind, .int .i64 g.A, .int .i64 g.B], 3⟩, ⟨some ⟨b1, 0, none⟩, 26, [.int .i64 0, .int .i64 0, .slice none 0 0], 3⟩, ⟨some ⟨b2, 0, none⟩, 26, [.int .i64 (shlK .i64 1 (IntKind.u64.wrap n)), .int .i64 (shlK .i64 1 (IntKind.u64.wrap n)), .slice none 0 0], 3⟩] [] := hS4
  refine rw_nil ?_
  refine cw_seq ?_
  refine cw_seq ?_
  refine cw_region ?_
  refine sq 7 rfl rfl (Y_assign (v := .int .i64 0) rfl rfl) ?_
  refine rw_nil ?_
  obtain ⟨hN, hF⟩ := chk_inv hF
  obtain ⟨z, hz, hF1⟩ := bind_inv hF
  have hS6 := hS4.addNil 44
  refine cw_block ?_
  refine cw_loop (fun k f w => ∃ (i1 : Nat) (Cells : List TDyadic) (B1 : Option Addr) (c1 : Nat), FF f [(0, .int .i64 n), (3, pt (some ⟨b, 0, none⟩) 0), (4, pt (some ⟨b1, 0, none⟩) 0), (5, .int .i64 (shlK .i64 1 (IntKind.u64.wrap n))), (6, pt (some ⟨b2, 0, none⟩) 0), (7, .int .i64 (i1 : Int))] ∧ ST w0 [] w [⟨some ⟨b, 0, none⟩, 124, [.int .i64 g.Kind, .int .i64 g.A, .int .i64 g.B], 3⟩, ⟨some ⟨b1, 0, none⟩, 26, [.int .i64 0, .int .i64 0, .slice none 0 0], 3⟩, ⟨some ⟨b2, 0, none⟩, 26, [.int .i64 (shlK .i64 1 (IntKind.u64.wrap n)), .int .i64 (shlK .i64 1 (IntKind.u64.wrap n)), .slice B1 Cells.length c1], 3⟩, ⟨B1, 44, (Cells.flatMap enc_Dyadic), c1 * 5⟩] [] ∧ i1 + k = (shlK .i64 1 (IntKind.u64.wrap n)).toNat ∧ forN (F_spec_l6Gate_l1 n g) k i1 Cells = some z) ((shlK .i64 1 (IntKind.u64.wrap n)).toNat) ⟨0, [], none, 0, (FF.cons rfl (FF.cons rfl (FF.cons rfl (FF.cons rfl (FF.cons rfl (FF.cons rfl FF.nil)))))), (hS6.sel [0, 1, 2, 3] rfl rfl), Nat.zero_add _, hz⟩ ?_
  rintro k_ f w ⟨i1, Cells, B1, c1, hf, hS5, hik, hL⟩
  refine cw_seq ?_
  refine cw_seq ?_
  refine cw_region ?_
  refine sq 15 rfl rfl (Y_move (v := .int .i64 (i1 : Int)) rfl (hf.get 7 5 rfl)) ?_
  refine sq 16 rfl rfl (Y_move (v := .int .i64 (shlK .i64 1 (IntKind.u64.wrap n))) rfl (hf.get 5 3 rfl)) ?_
  refine sq 17 rfl rfl (Y_lt (k := .i64) (a := (i1 : Int)) (b := (shlK .i64 1 (IntKind.u64.wrap n))) rfl rfl rfl) ?_
  refine rw_nil ?_
  refine cw_cond (b := (decide ((i1 : Int) < (shlK .i64 1 (IntKind.u64.wrap n))))) rfl (fun hlt => ?_) (fun hlt => ?_)
  · skip
    have hlt1 : i1 < (shlK .i64 1 (IntKind.u64.wrap n)).toNat := by have h := of_decide_eq_true hlt; omega
    obtain ⟨k_1, rfl⟩ : ∃ k2, k_ = k2 + 1 := ⟨k_ - 1, by omega⟩
    obtain ⟨y, hb, hL1⟩ := forN_go hL
    unfold F_spec_l6Gate_l1 at hb
    refine cw_skip ?_
    refine cw_seq ?_
    refine cw_block ?_
    refine cw_seq ?_
    refine cw_region ?_
    refine sq 8 rfl rfl (Y_assign (v := .int .i64 0) rfl rfl) ?_
    refine rw_nil ?_
    obtain ⟨hN1, hb⟩ := chk_inv hb
    obtain ⟨z1, hz1, hF2⟩ := bind_inv hb
    refine cw_block ?_
    refine cw_loop (fun k f w => ∃ (j : Nat) (Cells1 : List TDyadic) (B2 : Option Addr) (c2 : Nat), FF f [(0, .int .i64 n), (3, pt (some ⟨b, 0, none⟩) 0), (4, pt (some ⟨b1, 0, none⟩) 0), (5, .int .i64 (shlK .i64 1 (IntKind.u64.wrap n))), (6, pt (some ⟨b2, 0, none⟩) 0), (7, .int .i64 (i1 : Int)), (8, .int .i64 (j : Int))] ∧ ST w0 [] w [⟨some ⟨b, 0, none⟩, 124, [.int .i64 g.Kind, .int .i64 g.A, .int .i64 g.B], 3⟩, ⟨some ⟨b1, 0, none⟩, 26, [.int .i64 0, .int .i64 0, .slice none 0 0], 3⟩, ⟨some ⟨b2, 0, none⟩, 26, [.int .i64 (shlK .i64 1 (IntKind.u64.wrap n)), .int .i64 (shlK .i64 1 (IntKind.u64.wrap n)), .slice B2 Cells1.length c2], 3⟩, ⟨B2, 44, (Cells1.flatMap enc_Dyadic), c2 * 5⟩] [] ∧ j + k = (shlK .i64 1 (IntKind.u64.wrap n)).toNat ∧ forN (F_spec_l6Gate_l2 n g i1) k j Cells1 = some z1) ((shlK .i64 1 (IntKind.u64.wrap n)).toNat) ⟨0, Cells, B1, c1, (FF.cons (hf.get 0 0 rfl) (FF.cons (hf.get 3 1 rfl) (FF.cons (hf.get 4 2 rfl) (FF.cons (hf.get 5 3 rfl) (FF.cons (hf.get 6 4 rfl) (FF.cons (hf.get 7 5 rfl) (FF.cons rfl FF.nil))))))), (hS5.sel [0, 1, 2, 3] rfl rfl), Nat.zero_add _, hz1⟩ ?_
    rintro k_2 f w ⟨j, Cells1, B2, c2, hf1, hS7, hik1, hL2⟩
    refine cw_seq ?_
    refine cw_seq ?_
    refine cw_region ?_
    refine sq 20 rfl rfl (Y_move (v := .int .i64 (j : Int)) rfl (hf1.get 8 6 rfl)) ?_
    refine sq 21 rfl rfl (Y_move (v := .int .i64 (shlK .i64 1 (IntKind.u64.wrap n))) rfl (hf1.get 5 3 rfl)) ?_
    refine sq 22 rfl rfl (Y_lt (k := .i64) (a := (j : Int)) (b := (shlK .i64 1 (IntKind.u64.wrap n))) rfl rfl rfl) ?_
    refine rw_nil ?_
    refine cw_cond (b := (decide ((j : Int) < (shlK .i64 1 (IntKind.u64.wrap n))))) rfl (fun hlt2 => ?_) (fun hlt2 => ?_)
    · skip
      have hlt3 : j < (shlK .i64 1 (IntKind.u64.wrap n)).toNat := by have h := of_decide_eq_true hlt2; omega
      obtain ⟨k_3, rfl⟩ : ∃ k2, k_2 = k2 + 1 := ⟨k_2 - 1, by omega⟩
      obtain ⟨y1, hb1, hL3⟩ := forN_go hL2
      unfold F_spec_l6Gate_l2 at hb1
      refine cw_skip ?_
      refine cw_seq ?_
      refine cw_block ?_
      obtain ⟨r_1, hc, hb1⟩ := bind_inv hb1
      obtain ⟨hap, hb1⟩ := chk_inv hb1
      refine cw_mid (fun f w => ∃ (B4 : Option Addr) (c4 : Nat), FF f [(0, .int .i64 n), (3, pt (some ⟨b, 0, none⟩) 0), (4, pt (some ⟨b1, 0, none⟩) 0), (5, .int .i64 (shlK .i64 1 (IntKind.u64.wrap n))), (6, pt (some ⟨b2, 0, none⟩) 0), (7, .int .i64 (i1 : Int)), (8, .int .i64 (j : Int))] ∧ ST w0 [] w [⟨some ⟨b, 0, none⟩, 124, [.int .i64 g.Kind, .int .i64 g.A, .int .i64 g.B], 3⟩, ⟨some ⟨b1, 0, none⟩, 26, [.int .i64 0, .int .i64 0, .slice none 0 0], 3⟩, ⟨some ⟨b2, 0, none⟩, 26, [.int .i64 (shlK .i64 1 (IntKind.u64.wrap n)), .int .i64 (shlK .i64 1 (IntKind.u64.wrap n)), .slice B4 ((Cells1 ++ [r_1]).length) c4], 3⟩, ⟨B4, 44, ((Cells1 ++ [r_1]).flatMap enc_Dyadic), c4 * 5⟩] []) ?_ ?_
      · skip
        refine ra_start (ST.sel hS7 [0, 1] rfl rfl).fn (by kernel_rfl) ?_
        have hS10 := hS7.drew
        refine ra_q 0 25 (v := pt (some ⟨b2, 0, none⟩) 2) rfl rfl rfl (by kernel_rfl) (by kernel_rfl) (by kernel_rfl) (ST.sel hS10 [0, 1] rfl rfl) (fun w' hw' => (Y_fieldAddr (B := some ⟨b2, 0, none⟩) (i := 0) (s := 0) k_fd_26_2_2_24 k_sz_24_1 rfl (hf1.get 6 4 rfl))) ?_
        refine ra_q 2 27 (v := .int .i64 n) rfl rfl rfl (by kernel_rfl) (by kernel_rfl) (by kernel_rfl) (ST.sel hS10 [0, 1] rfl rfl) (fun w' hw' => (Y_move (v := .int .i64 n) rfl (hf1.get 0 0 rfl))) ?_
        refine ra_q 3 28 (v := .agg #[.int .i64 g.Kind, .int .i64 g.A, .int .i64 g.B]) rfl rfl rfl (by kernel_rfl) (by kernel_rfl) (by kernel_rfl) (ST.sel hS10 [0, 1] rfl rfl) (fun w' hw' => (Y_loadA (B := some ⟨b, 0, none⟩) (i := 0) (cs := [.int .i64 g.Kind, .int .i64 g.A, .int .i64 g.B]) (vs := [.int .i64 g.Kind, .int .i64 g.A, .int .i64 g.B]) k_ag_124 k_sz_124_3 rfl (hf1.get 3 1 rfl) (ST.cf hw' (i := 0) rfl) rfl rfl)) ?_
        refine ra_q 4 29 (v := .int .i64 (i1 : Int)) rfl rfl rfl (by kernel_rfl) (by kernel_rfl) (by kernel_rfl) (ST.sel hS10 [0, 1] rfl rfl) (fun w' hw' => (Y_move (v := .int .i64 (i1 : Int)) rfl (hf1.get 7 5 rfl))) ?_
        refine ra_q 5 30 (v := .int .i64 (j : Int)) rfl rfl rfl (by kernel_rfl) (by kernel_rfl) (by kernel_rfl) (ST.sel hS10 [0, 1] rfl rfl) (fun w' hw' => (Y_move (v := .int .i64 (j : Int)) rfl (hf1.get 8 6 rfl))) ?_
        refine ra_all (rs := [1, 6]) (by kernel_rfl) rfl ?_
        refine ra_y 26 (i := 1) (v := .slice B2 Cells1.length c2) rfl rfl rfl (Y_load1 (B := some ⟨b2, 0, none⟩) (i := 2) (cs := [.int .i64 (shlK .i64 1 (IntKind.u64.wrap n)), .int .i64 (shlK .i64 1 (IntKind.u64.wrap n)), .slice B2 Cells1.length c2]) (v := .slice B2 Cells1.length c2) k_sc_24 rfl rfl (hS10.cf (i := 2) rfl) rfl) (ST.sel hS10 [0, 1] rfl rfl) ?_ ?_
        · skip
          refine ra_all (rs := [6]) (by kernel_rfl) rfl ?_
          refine ra_c 31 (i := 6) rfl rfl rfl (Yc_func (g := 172) (vs := [.int .i64 n, .agg #[.int .i64 g.Kind, .int .i64 g.A, .int .i64 g.B], .int .i64 (i1 : Int), .int .i64 (j : Int)]) k_call_172 rfl (mc rfl (mc rfl (mc rfl (mc rfl mn)))) (c_spec_l6Cell n g (i1 : Int) (j : Int) _  (hS10.inn0 [] rfl) hc)) ?_ ?_
          · rintro _ w_4 ⟨rfl, hd⟩
            have hS11 := hS10.out00 hd
            have hS11 : ST w0 [] _ [⟨some ⟨b, 0, none⟩, 124, [.int .i64 g.Kind, .int .i64 g.A, .int .i64 g.B], 3⟩, ⟨some ⟨b1, 0, none⟩, 26, [.int .i64 0, .int .i64 0, .slice none 0 0], 3⟩, ⟨some ⟨b2, 0, none⟩, 26, [.int .i64 (shlK .i64 1 (IntKind.u64.wrap n)), .int .i64 (shlK .i64 1 (IntKind.u64.wrap n)), .slice B2 Cells1.length c2], 3⟩, ⟨B2, 44, (Cells1.flatMap enc_Dyadic), c2 * 5⟩] [] := hS11
            refine ⟨(ST.sel hS11 [0, 1] rfl rfl), ?_⟩
            refine ra_all (rs := [7]) (by kernel_rfl) rfl ?_
            refine ra_s 32 (i := 7) rfl rfl rfl (Ys_bslice (s := 5) (len := 1) (vs := [(0, .agg #[.int .i64 r_1.Num.A, .int .i64 r_1.Num.B, .int .i64 r_1.Num.C, .int .i64 r_1.Num.D, .int .i64 r_1.Exp])]) (cs := [.int .i64 r_1.Num.A, .int .i64 r_1.Num.B, .int .i64 r_1.Num.C, .int .i64 r_1.Num.D, .int .i64 r_1.Exp]) (zs := [.int .i64 0, .int .i64 0, .int .i64 0, .int .i64 0, .int .i64 0]) (m := 5) hS11 k_sl_24_44 k_sz_44_5 k_zc_44 rfl (mpc rfl mpn) rfl rfl rfl (by kernel_rfl) (by kernel_rfl) rfl) ?_ ?_
            · rintro _ w_5 ⟨b3, rfl, hS12⟩
              have hS12 : ST w0 [] _ [⟨some ⟨b, 0, none⟩, 124, [.int .i64 g.Kind, .int .i64 g.A, .int .i64 g.B], 3⟩, ⟨some ⟨b1, 0, none⟩, 26, [.int .i64 0, .int .i64 0, .slice none 0 0], 3⟩, ⟨some ⟨b2, 0, none⟩, 26, [.int .i64 (shlK .i64 1 (IntKind.u64.wrap n)), .int .i64 (shlK .i64 1 (IntKind.u64.wrap n)), .slice B2 Cells1.length c2], 3⟩, ⟨B2, 44, (Cells1.flatMap enc_Dyadic), c2 * 5⟩, ⟨some ⟨b3, 0, none⟩, 44, ([r_1].flatMap enc_Dyadic), 1 * 5⟩] [] := hS12
              refine ⟨(ST.sel hS12 [0, 1] rfl rfl), ?_⟩
              refine ra_all (rs := [8]) (by kernel_rfl) rfl ?_
              refine ra_s 33 (i := 8) rfl rfl rfl (Ys_append (s := 5) (by' := 40) (i := 3) (nn := Cells1.length) (c := c2) (k := 1) (len := (Cells1 ++ [r_1]).length) (B := B2) (xs := ([r_1].flatMap enc_Dyadic)) (cs' := ((Cells1 ++ [r_1]).flatMap enc_Dyadic)) hS12 k_sl_24_44 k_sz_44_5 k_by_44_40 k_zero_44 rfl (by decide) rfl rfl rfl rfl (fm_lenn (l := Cells1) enc_Dyadic_len rfl) rfl (hS12.cf (i := 4) rfl) (fm_lenn (l := [r_1]) enc_Dyadic_len rfl) (fm_one' (enc := enc_Dyadic) enc_Dyadic_one [r_1]) (by have := hap; omega) (by have := hap; simp only [maxLen]; omega) (fm_app _ _) (app_len (l := Cells1) (l' := [r_1]) rfl rfl)) ?_ ?_
              · rintro _ w_6 ⟨B3, c3, rfl, hS13⟩
                have hS13 : ST w0 [] _ [⟨some ⟨b, 0, none⟩, 124, [.int .i64 g.Kind, .int .i64 g.A, .int .i64 g.B], 3⟩, ⟨some ⟨b1, 0, none⟩, 26, [.int .i64 0, .int .i64 0, .slice none 0 0], 3⟩, ⟨some ⟨b2, 0, none⟩, 26, [.int .i64 (shlK .i64 1 (IntKind.u64.wrap n)), .int .i64 (shlK .i64 1 (IntKind.u64.wrap n)), .slice B2 Cells1.length c2], 3⟩, ⟨B3, 44, ((Cells1 ++ [r_1]).flatMap enc_Dyadic), c3 * 5⟩, ⟨some ⟨b3, 0, none⟩, 44, ([r_1].flatMap enc_Dyadic), 1 * 5⟩] [] := hS13
                refine ⟨(ST.sel hS13 [0, 1] rfl rfl), ?_⟩
                refine ra_q 9 34 (v := pt (some ⟨b2, 0, none⟩) 2) rfl rfl rfl (by kernel_rfl) (by kernel_rfl) (by kernel_rfl) (ST.sel hS13 [0, 1] rfl rfl) (fun w' hw' => (Y_fieldAddr (B := some ⟨b2, 0, none⟩) (i := 0) (s := 0) k_fd_26_2_2_24 k_sz_24_1 rfl (hf1.get 6 4 rfl))) ?_
                refine ra_all (rs := [10]) (by kernel_rfl) rfl ?_
                refine ra_s0 (i := 10) rfl rfl rfl (Ys_store (i := 2) (s := 1) (B := some ⟨b2, 0, none⟩) (T' := 26) (v := .slice B3 ((Cells1 ++ [r_1]).length) c3) (vs := [.slice B3 ((Cells1 ++ [r_1]).length) c3]) (k := 2) (cs' := [.int .i64 (shlK .i64 1 (IntKind.u64.wrap n)), .int .i64 (shlK .i64 1 (IntKind.u64.wrap n)), .slice B3 ((Cells1 ++ [r_1]).length) c3]) hS13 k_sz_24_1 rfl rfl rfl rfl rfl rfl rfl (Nat.le_of_ble_eq_true rfl) rfl rfl) ?_ ?_
                · rintro _ w_7 ⟨rfl, hS14⟩
                  have hS14 : ST w0 [] _ [⟨some ⟨b, 0, none⟩, 124, [.int .i64 g.Kind, .int .i64 g.A, .int .i64 g.B], 3⟩, ⟨some ⟨b1, 0, none⟩, 26, [.int .i64 0, .int .i64 0, .slice none 0 0], 3⟩, ⟨some ⟨b2, 0, none⟩, 26, [.int .i64 (shlK .i64 1 (IntKind.u64.wrap n)), .int .i64 (shlK .i64 1 (IntKind.u64.wrap n)), .slice B3 ((Cells1 ++ [r_1]).length) c3], 3⟩, ⟨B3, 44, ((Cells1 ++ [r_1]).flatMap enc_Dyadic), c3 * 5⟩, ⟨some ⟨b3, 0, none⟩, 44, ([r_1].flatMap enc_Dyadic), 1 * 5⟩] [] := hS14
                  refine ⟨(ST.sel hS14 [0, 1] rfl rfl), ?_⟩
                  refine ra_done (by kernel_rfl) ?_
                  exact ⟨B3, c3, (FF.cons (hf1.get 0 0 rfl) (FF.cons (hf1.get 3 1 rfl) (FF.cons (hf1.get 4 2 rfl) (FF.cons (hf1.get 5 3 rfl) (FF.cons (hf1.get 6 4 rfl) (FF.cons (hf1.get 7 5 rfl) (FF.cons (hf1.get 8 6 rfl) FF.nil))))))), (hS14.sel [0, 1, 2, 3] rfl rfl)⟩
                exact allR_nil
              exact allR_nil
            exact allR_nil
          exact allR_nil
        refine ra_c 31 (i := 6) rfl rfl rfl (Yc_func (g := 172) (vs := [.int .i64 n, .agg #[.int .i64 g.Kind, .int .i64 g.A, .int .i64 g.B], .int .i64 (i1 : Int), .int .i64 (j : Int)]) k_call_172 rfl (mc rfl (mc rfl (mc rfl (mc rfl mn)))) (c_spec_l6Cell n g (i1 : Int) (j : Int) _  (hS10.inn0 [] rfl) hc)) ?_ ?_
        · rintro _ w_8 ⟨rfl, hd1⟩
          have hS15 := hS10.out00 hd1
          have hS15 : ST w0 [] _ [⟨some ⟨b, 0, none⟩, 124, [.int .i64 g.Kind, .int .i64 g.A, .int .i64 g.B], 3⟩, ⟨some ⟨b1, 0, none⟩, 26, [.int .i64 0, .int .i64 0, .slice none 0 0], 3⟩, ⟨some ⟨b2, 0, none⟩, 26, [.int .i64 (shlK .i64 1 (IntKind.u64.wrap n)), .int .i64 (shlK .i64 1 (IntKind.u64.wrap n)), .slice B2 Cells1.length c2], 3⟩, ⟨B2, 44, (Cells1.flatMap enc_Dyadic), c2 * 5⟩] [] := hS15
          refine ⟨(ST.sel hS15 [0, 1] rfl rfl), ?_⟩
          refine ra_all (rs := [1, 7]) (by kernel_rfl) rfl ?_
          refine ra_y 26 (i := 1) (v := .slice B2 Cells1.length c2) rfl rfl rfl (Y_load1 (B := some ⟨b2, 0, none⟩) (i := 2) (cs := [.int .i64 (shlK .i64 1 (IntKind.u64.wrap n)), .int .i64 (shlK .i64 1 (IntKind.u64.wrap n)), .slice B2 Cells1.length c2]) (v := .slice B2 Cells1.length c2) k_sc_24 rfl rfl (hS15.cf (i := 2) rfl) rfl) (ST.sel hS15 [0, 1] rfl rfl) ?_ ?_
          · skip
            refine ra_all (rs := [7]) (by kernel_rfl) rfl ?_
            refine ra_s 32 (i := 7) rfl rfl rfl (Ys_bslice (s := 5) (len := 1) (vs := [(0, .agg #[.int .i64 r_1.Num.A, .int .i64 r_1.Num.B, .int .i64 r_1.Num.C, .int .i64 r_1.Num.D, .int .i64 r_1.Exp])]) (cs := [.int .i64 r_1.Num.A, .int .i64 r_1.Num.B, .int .i64 r_1.Num.C, .int .i64 r_1.Num.D, .int .i64 r_1.Exp]) (zs := [.int .i64 0, .int .i64 0, .int .i64 0, .int .i64 0, .int .i64 0]) (m := 5) hS15 k_sl_24_44 k_sz_44_5 k_zc_44 rfl (mpc rfl mpn) rfl rfl rfl (by kernel_rfl) (by kernel_rfl) rfl) ?_ ?_
            · rintro _ w_9 ⟨b3, rfl, hS16⟩
              have hS16 : ST w0 [] _ [⟨some ⟨b, 0, none⟩, 124, [.int .i64 g.Kind, .int .i64 g.A, .int .i64 g.B], 3⟩, ⟨some ⟨b1, 0, none⟩, 26, [.int .i64 0, .int .i64 0, .slice none 0 0], 3⟩, ⟨some ⟨b2, 0, none⟩, 26, [.int .i64 (shlK .i64 1 (IntKind.u64.wrap n)), .int .i64 (shlK .i64 1 (IntKind.u64.wrap n)), .slice B2 Cells1.length c2], 3⟩, ⟨B2, 44, (Cells1.flatMap enc_Dyadic), c2 * 5⟩, ⟨some ⟨b3, 0, none⟩, 44, ([r_1].flatMap enc_Dyadic), 1 * 5⟩] [] := hS16
              refine ⟨(ST.sel hS16 [0, 1] rfl rfl), ?_⟩
              refine ra_all (rs := [8]) (by kernel_rfl) rfl ?_
              refine ra_s 33 (i := 8) rfl rfl rfl (Ys_append (s := 5) (by' := 40) (i := 3) (nn := Cells1.length) (c := c2) (k := 1) (len := (Cells1 ++ [r_1]).length) (B := B2) (xs := ([r_1].flatMap enc_Dyadic)) (cs' := ((Cells1 ++ [r_1]).flatMap enc_Dyadic)) hS16 k_sl_24_44 k_sz_44_5 k_by_44_40 k_zero_44 rfl (by decide) rfl rfl rfl rfl (fm_lenn (l := Cells1) enc_Dyadic_len rfl) rfl (hS16.cf (i := 4) rfl) (fm_lenn (l := [r_1]) enc_Dyadic_len rfl) (fm_one' (enc := enc_Dyadic) enc_Dyadic_one [r_1]) (by have := hap; omega) (by have := hap; simp only [maxLen]; omega) (fm_app _ _) (app_len (l := Cells1) (l' := [r_1]) rfl rfl)) ?_ ?_
              · rintro _ w_10 ⟨B3, c3, rfl, hS17⟩
                have hS17 : ST w0 [] _ [⟨some ⟨b, 0, none⟩, 124, [.int .i64 g.Kind, .int .i64 g.A, .int .i64 g.B], 3⟩, ⟨some ⟨b1, 0, none⟩, 26, [.int .i64 0, .int .i64 0, .slice none 0 0], 3⟩, ⟨some ⟨b2, 0, none⟩, 26, [.int .i64 (shlK .i64 1 (IntKind.u64.wrap n)), .int .i64 (shlK .i64 1 (IntKind.u64.wrap n)), .slice B2 Cells1.length c2], 3⟩, ⟨B3, 44, ((Cells1 ++ [r_1]).flatMap enc_Dyadic), c3 * 5⟩, ⟨some ⟨b3, 0, none⟩, 44, ([r_1].flatMap enc_Dyadic), 1 * 5⟩] [] := hS17
                refine ⟨(ST.sel hS17 [0, 1] rfl rfl), ?_⟩
                refine ra_q 9 34 (v := pt (some ⟨b2, 0, none⟩) 2) rfl rfl rfl (by kernel_rfl) (by kernel_rfl) (by kernel_rfl) (ST.sel hS17 [0, 1] rfl rfl) (fun w' hw' => (Y_fieldAddr (B := some ⟨b2, 0, none⟩) (i := 0) (s := 0) k_fd_26_2_2_24 k_sz_24_1 rfl (hf1.get 6 4 rfl))) ?_
                refine ra_all (rs := [10]) (by kernel_rfl) rfl ?_
                refine ra_s0 (i := 10) rfl rfl rfl (Ys_store (i := 2) (s := 1) (B := some ⟨b2, 0, none⟩) (T' := 26) (v := .slice B3 ((Cells1 ++ [r_1]).length) c3) (vs := [.slice B3 ((Cells1 ++ [r_1]).length) c3]) (k := 2) (cs' := [.int .i64 (shlK .i64 1 (IntKind.u64.wrap n)), .int .i64 (shlK .i64 1 (IntKind.u64.wrap n)), .slice B3 ((Cells1 ++ [r_1]).length) c3]) hS17 k_sz_24_1 rfl rfl rfl rfl rfl rfl rfl (Nat.le_of_ble_eq_true rfl) rfl rfl) ?_ ?_
                · rintro _ w_11 ⟨rfl, hS18⟩
                  have hS18 : ST w0 [] _ [⟨some ⟨b, 0, none⟩, 124, [.int .i64 g.Kind, .int .i64 g.A, .int .i64 g.B], 3⟩, ⟨some ⟨b1, 0, none⟩, 26, [.int .i64 0, .int .i64 0, .slice none 0 0], 3⟩, ⟨some ⟨b2, 0, none⟩, 26, [.int .i64 (shlK .i64 1 (IntKind.u64.wrap n)), .int .i64 (shlK .i64 1 (IntKind.u64.wrap n)), .slice B3 ((Cells1 ++ [r_1]).length) c3], 3⟩, ⟨B3, 44, ((Cells1 ++ [r_1]).flatMap enc_Dyadic), c3 * 5⟩, ⟨some ⟨b3, 0, none⟩, 44, ([r_1].flatMap enc_Dyadic), 1 * 5⟩] [] := hS18
                  refine ⟨(ST.sel hS18 [0, 1] rfl rfl), ?_⟩
                  refine ra_done (by kernel_rfl) ?_
                  exact ⟨B3, c3, (FF.cons (hf1.get 0 0 rfl) (FF.cons (hf1.get 3 1 rfl) (FF.cons (hf1.get 4 2 rfl) (FF.cons (hf1.get 5 3 rfl) (FF.cons (hf1.get 6 4 rfl) (FF.cons (hf1.get 7 5 rfl) (FF.cons (hf1.get 8 6 rfl) FF.nil))))))), (hS18.sel [0, 1, 2, 3] rfl rfl)⟩
                exact allR_nil
              exact allR_nil
            exact allR_nil
          refine ra_s 32 (i := 7) rfl rfl rfl (Ys_bslice (s := 5) (len := 1) (vs := [(0, .agg #[.int .i64 r_1.Num.A, .int .i64 r_1.Num.B, .int .i64 r_1.Num.C, .int .i64 r_1.Num.D, .int .i64 r_1.Exp])]) (cs := [.int .i64 r_1.Num.A, .int .i64 r_1.Num.B, .int .i64 r_1.Num.C, .int .i64 r_1.Num.D, .int .i64 r_1.Exp]) (zs := [.int .i64 0, .int .i64 0, .int .i64 0, .int .i64 0, .int .i64 0]) (m := 5) hS15 k_sl_24_44 k_sz_44_5 k_zc_44 rfl (mpc rfl mpn) rfl rfl rfl (by kernel_rfl) (by kernel_rfl) rfl) ?_ ?_
          · rintro _ w_12 ⟨b3, rfl, hS19⟩
            have hS19 : ST w0 [] _ [⟨some ⟨b, 0, none⟩, 124, [.int .i64 g.Kind, .int .i64 g.A, .int .i64 g.B], 3⟩, ⟨some ⟨b1, 0, none⟩, 26, [.int .i64 0, .int .i64 0, .slice none 0 0], 3⟩, ⟨some ⟨b2, 0, none⟩, 26, [.int .i64 (shlK .i64 1 (IntKind.u64.wrap n)), .int .i64 (shlK .i64 1 (IntKind.u64.wrap n)), .slice B2 Cells1.length c2], 3⟩, ⟨B2, 44, (Cells1.flatMap enc_Dyadic), c2 * 5⟩, ⟨some ⟨b3, 0, none⟩, 44, ([r_1].flatMap enc_Dyadic), 1 * 5⟩] [] := hS19
            refine ⟨(ST.sel hS19 [0, 1] rfl rfl), ?_⟩
            refine ra_all (rs := [1]) (by kernel_rfl) rfl ?_
            refine ra_y 26 (i := 1) (v := .slice B2 Cells1.length c2) rfl rfl rfl (Y_load1 (B := some ⟨b2, 0, none⟩) (i := 2) (cs := [.int .i64 (shlK .i64 1 (IntKind.u64.wrap n)), .int .i64 (shlK .i64 1 (IntKind.u64.wrap n)), .slice B2 Cells1.length c2]) (v := .slice B2 Cells1.length c2) k_sc_24 rfl rfl (hS19.cf (i := 2) rfl) rfl) (ST.sel hS19 [0, 1] rfl rfl) ?_ ?_
            · skip
              refine ra_all (rs := [8]) (by kernel_rfl) rfl ?_
              refine ra_s 33 (i := 8) rfl rfl rfl (Ys_append (s := 5) (by' := 40) (i := 3) (nn := Cells1.length) (c := c2) (k := 1) (len := (Cells1 ++ [r_1]).length) (B := B2) (xs := ([r_1].flatMap enc_Dyadic)) (cs' := ((Cells1 ++ [r_1]).flatMap enc_Dyadic)) hS19 k_sl_24_44 k_sz_44_5 k_by_44_40 k_zero_44 rfl (by decide) rfl rfl rfl rfl (fm_lenn (l := Cells1) enc_Dyadic_len rfl) rfl (hS19.cf (i := 4) rfl) (fm_lenn (l := [r_1]) enc_Dyadic_len rfl) (fm_one' (enc := enc_Dyadic) enc_Dyadic_one [r_1]) (by have := hap; omega) (by have := hap; simp only [maxLen]; omega) (fm_app _ _) (app_len (l := Cells1) (l' := [r_1]) rfl rfl)) ?_ ?_
              · rintro _ w_13 ⟨B3, c3, rfl, hS20⟩
                have hS20 : ST w0 [] _ [⟨some ⟨b, 0, none⟩, 124, [.int .i64 g.Kind, .int .i64 g.A, .int .i64 g.B], 3⟩, ⟨some ⟨b1, 0, none⟩, 26, [.int .i64 0, .int .i64 0, .slice none 0 0], 3⟩, ⟨some ⟨b2, 0, none⟩, 26, [.int .i64 (shlK .i64 1 (IntKind.u64.wrap n)), .int .i64 (shlK .i64 1 (IntKind.u64.wrap n)), .slice B2 Cells1.length c2], 3⟩, ⟨B3, 44, ((Cells1 ++ [r_1]).flatMap enc_Dyadic), c3 * 5⟩, ⟨some ⟨b3, 0, none⟩, 44, ([r_1].flatMap enc_Dyadic), 1 * 5⟩] [] := hS20
                refine ⟨(ST.sel hS20 [0, 1] rfl rfl), ?_⟩
                refine ra_q 9 34 (v := pt (some ⟨b2, 0, none⟩) 2) rfl rfl rfl (by kernel_rfl) (by kernel_rfl) (by kernel_rfl) (ST.sel hS20 [0, 1] rfl rfl) (fun w' hw' => (Y_fieldAddr (B := some ⟨b2, 0, none⟩) (i := 0) (s := 0) k_fd_26_2_2_24 k_sz_24_1 rfl (hf1.get 6 4 rfl))) ?_
                refine ra_all (rs := [10]) (by kernel_rfl) rfl ?_
                refine ra_s0 (i := 10) rfl rfl rfl (Ys_store (i := 2) (s := 1) (B := some ⟨b2, 0, none⟩) (T' := 26) (v := .slice B3 ((Cells1 ++ [r_1]).length) c3) (vs := [.slice B3 ((Cells1 ++ [r_1]).length) c3]) (k := 2) (cs' := [.int .i64 (shlK .i64 1 (IntKind.u64.wrap n)), .int .i64 (shlK .i64 1 (IntKind.u64.wrap n)), .slice B3 ((Cells1 ++ [r_1]).length) c3]) hS20 k_sz_24_1 rfl rfl rfl rfl rfl rfl rfl (Nat.le_of_ble_eq_true rfl) rfl rfl) ?_ ?_
                · rintro _ w_14 ⟨rfl, hS21⟩
                  have hS21 : ST w0 [] _ [⟨some ⟨b, 0, none⟩, 124, [.int .i64 g.Kind, .int .i64 g.A, .int .i64 g.B], 3⟩, ⟨some ⟨b1, 0, none⟩, 26, [.int .i64 0, .int .i64 0, .slice none 0 0], 3⟩, ⟨some ⟨b2, 0, none⟩, 26, [.int .i64 (shlK .i64 1 (IntKind.u64.wrap n)), .int .i64 (shlK .i64 1 (IntKind.u64.wrap n)), .slice B3 ((Cells1 ++ [r_1]).length) c3], 3⟩, ⟨B3, 44, ((Cells1 ++ [r_1]).flatMap enc_Dyadic), c3 * 5⟩, ⟨some ⟨b3, 0, none⟩, 44, ([r_1].flatMap enc_Dyadic), 1 * 5⟩] [] := hS21
                  refine ⟨(ST.sel hS21 [0, 1] rfl rfl), ?_⟩
                  refine ra_done (by kernel_rfl) ?_
                  exact ⟨B3, c3, (FF.cons (hf1.get 0 0 rfl) (FF.cons (hf1.get 3 1 rfl) (FF.cons (hf1.get 4 2 rfl) (FF.cons (hf1.get 5 3 rfl) (FF.cons (hf1.get 6 4 rfl) (FF.cons (hf1.get 7 5 rfl) (FF.cons (hf1.get 8 6 rfl) FF.nil))))))), (hS21.sel [0, 1, 2, 3] rfl rfl)⟩
                exact allR_nil
              exact allR_nil
            exact allR_nil
          exact allR_nil
        exact allR_nil
      rintro f w ⟨B4, c4, hf2, hS9⟩
      refine cw_region ?_
      refine sq 23 rfl rfl (Y_move (v := .int .i64 (j : Int)) rfl (hf2.get 8 6 rfl)) ?_
      refine sq 24 rfl rfl (Y_add (k := .i64) (a := (j : Int)) (b := 1) rfl rfl rfl) ?_
      refine sq 8 rfl rfl (Y_assign (v := .int .i64 (IntKind.i64.wrap ((j : Int) + 1))) rfl rfl) ?_
      refine rw_nil ?_
      obtain rfl := some_inj hb1
      exact ⟨k_3, Nat.lt_succ_self _, j + 1, (Cells1 ++ [r_1]), B4, c4, (FF.cons (hf2.get 0 0 rfl) (FF.cons (hf2.get 3 1 rfl) (FF.cons (hf2.get 4 2 rfl) (FF.cons (hf2.get 5 3 rfl) (FF.cons (hf2.get 6 4 rfl) (FF.cons (hf2.get 7 5 rfl) (FF.cons (congrArg (Value.int .i64) (wr_succ hlt3 hN1)) FF.nil))))))), (hS9.sel [0, 1, 2, 3] rfl rfl), (by omega), hL3⟩
    · skip
      obtain rfl : k_2 = 0 := by have h := of_decide_eq_false hlt2; omega
      refine cw_exit rfl ?_
      obtain rfl := some_inj hL2
      refine cw_region ?_
      refine sq 18 rfl rfl (Y_move (v := .int .i64 (i1 : Int)) rfl (hf1.get 7 5 rfl)) ?_
      refine sq 19 rfl rfl (Y_add (k := .i64) (a := (i1 : Int)) (b := 1) rfl rfl rfl) ?_
      refine sq 7 rfl rfl (Y_assign (v := .int .i64 (IntKind.i64.wrap ((i1 : Int) + 1))) rfl rfl) ?_
      refine rw_nil ?_
      obtain rfl := some_inj hF2
      exact ⟨k_1, Nat.lt_succ_self _, i1 + 1, Cells1, B2, c2, (FF.cons (hf1.get 0 0 rfl) (FF.cons (hf1.get 3 1 rfl) (FF.cons (hf1.get 4 2 rfl) (FF.cons (hf1.get 5 3 rfl) (FF.cons (hf1.get 6 4 rfl) (FF.cons (congrArg (Value.int .i64) (wr_succ hlt1 hN)) FF.nil)))))), (hS7.sel [0, 1, 2, 3] rfl rfl), (by omega), hL1⟩
  · skip
    obtain rfl : k_ = 0 := by have h := of_decide_eq_false hlt; omega
    refine cw_exit rfl ?_
    obtain rfl := some_inj hL
    refine cw_seq ?_
    refine cw_region ?_
    refine sq 35 rfl rfl (Y_loadA (B := some ⟨b2, 0, none⟩) (i := 0) (cs := [.int .i64 (shlK .i64 1 (IntKind.u64.wrap n)), .int .i64 (shlK .i64 1 (IntKind.u64.wrap n)), .slice B1 Cells.length c1]) (vs := [.int .i64 (shlK .i64 1 (IntKind.u64.wrap n)), .int .i64 (shlK .i64 1 (IntKind.u64.wrap n)), .slice B1 Cells.length c1]) k_ag_26 k_sz_26_3 rfl (hf.get 6 4 rfl) (hS5.cf (i := 2) rfl) rfl rfl) ?_
    refine ss0 rfl rfl (Ys_store (i := 1) (s := 3) (B := some ⟨b1, 0, none⟩) (T' := 26) (v := .agg #[.int .i64 (shlK .i64 1 (IntKind.u64.wrap n)), .int .i64 (shlK .i64 1 (IntKind.u64.wrap n)), .slice B1 Cells.length c1]) (vs := [.int .i64 (shlK .i64 1 (IntKind.u64.wrap n)), .int .i64 (shlK .i64 1 (IntKind.u64.wrap n)), .slice B1 Cells.length c1]) (k := 0) (cs' := [.int .i64 (shlK .i64 1 (IntKind.u64.wrap n)), .int .i64 (shlK .i64 1 (IntKind.u64.wrap n)), .slice B1 Cells.length c1]) hS5 k_sz_26_3 rfl (hf.get 4 2 rfl) rfl rfl rfl rfl rfl (Nat.le_of_ble_eq_true rfl) rfl rfl) ?_
    rintro _ w_15 ⟨rfl, hS22⟩
    have hS22 : ST w0 [] _ [⟨some ⟨b, 0, none⟩, 124, [.int .i64 g.Kind, .int .i64 g.A, .int .i64 g.B], 3⟩, ⟨some ⟨b1, 0, none⟩, 26, [.int .i64 (shlK .i64 1 (IntKind.u64.wrap n)), .int .i64 (shlK .i64 1 (IntKind.u64.wrap n)), .slice B1 Cells.length c1], 3⟩, ⟨some ⟨b2, 0, none⟩, 26, [.int .i64 (shlK .i64 1 (IntKind.u64.wrap n)), .int .i64 (shlK .i64 1 (IntKind.u64.wrap n)), .slice B1 Cells.length c1], 3⟩, ⟨B1, 44, (Cells.flatMap enc_Dyadic), c1 * 5⟩] [] := hS22
    refine rw_nil ?_
    refine cw_ret ?_
    obtain rfl := some_inj hF1
    exact ret1 Try.results166 (v1 := .agg #[.int .i64 (shlK .i64 1 (IntKind.u64.wrap n)), .int .i64 (shlK .i64 1 (IntKind.u64.wrap n)), .slice B1 Cells.length c1]) (resAt_cellA (B := some ⟨b1, 0, none⟩) (i := 0) (cs := [.int .i64 (shlK .i64 1 (IntKind.u64.wrap n)), .int .i64 (shlK .i64 1 (IntKind.u64.wrap n)), .slice B1 Cells.length c1]) (vs := [.int .i64 (shlK .i64 1 (IntKind.u64.wrap n)), .int .i64 (shlK .i64 1 (IntKind.u64.wrap n)), .slice B1 Cells.length c1]) (hf.get 4 2 rfl) k_ag_26 k_sz_26_3 (hS22.cf (i := 1) rfl) rfl rfl) ⟨B1, c1, rfl, (ST.subR (R' := []) (hS22.sel [3] rfl rfl) (fun _ h => by cases h))⟩

theorem c_spec_l2C_run (c : Tl2C) (x : TCircuit) (m : TMatrix) (B : Option Addr) (B1 : Option Addr) (c1 n : Nat) (B2 : Option Addr) (c2 n1 : Nat) (w0 : World) (hn : x.Gates.length = n) (hn1 : m.Cells.length = n1) (hS : ST w0 (bl [⟨B, 96, [.bool c.bad], 1⟩, ⟨B2, 44, (m.Cells.flatMap enc_Dyadic), c2 * 5⟩]) w0 [⟨B, 96, [.bool c.bad], 1⟩, ⟨B2, 44, (m.Cells.flatMap enc_Dyadic), c2 * 5⟩] [⟨B1, (x.Gates.flatMap enc_Gate)⟩]) {r_ : TMatrix} {m1 : Tl2C} (hF : F_spec_l2C_run c x m = some (r_, m1)) :
    CV Try.prog 133 #[pt B 0, .agg #[.int .i64 x.Qubits, .slice B1 n c1], .agg #[.int .i64 m.Rows, .int .i64 m.Cols, .slice B2 n1 c2]] w0 (fun v w' => ∃ (B3 : Option Addr) (c3 : Nat), v = .agg #[.int .i64 r_.Rows, .int .i64 r_.Cols, .slice B3 r_.Cells.length c3] ∧ ST w0 (bl [⟨B, 96, [.bool c.bad], 1⟩, ⟨B2, 44, (m.Cells.flatMap enc_Dyadic), c2 * 5⟩]) w' [⟨B, 96, [.bool m1.bad], 1⟩, ⟨B3, 44, (r_.Cells.flatMap enc_Dyadic), c3 * 5⟩] []) := by
  subst hn
  subst hn1
  unfold F_spec_l2C_run at hF
  refine cv_of_cw 30 Try.func133 rfl Try.ntmps133 rfl ?_
  refine cw_seq ?_
  refine cw_region ?_
  refine ss 4 rfl rfl (Ys_box (T := 122) (v := .agg #[.int .i64 x.Qubits, .slice B1 x.Gates.length c1]) (cs := [.int .i64 x.Qubits, .slice B1 x.Gates.length c1]) (m := 2) hS rfl rfl rfl rfl) ?_
  rintro _ w_ ⟨b, rfl, hS1⟩
  have hS1 : ST w0 (bl [⟨B, 96, [.bool c.bad], 1⟩, ⟨B2, 44, (m.Cells.flatMap enc_Dyadic), c2 * 5⟩]) _ [⟨B, 96, [.bool c.bad], 1⟩, ⟨B2, 44, (m.Cells.flatMap enc_Dyadic), c2 * 5⟩, ⟨some ⟨b, 0, none⟩, 122, [.int .i64 x.Qubits, .slice B1 x.Gates.length c1], 2⟩] [⟨B1, (x.Gates.flatMap enc_Gate)⟩] := hS1
  refine ss 5 rfl rfl (Ys_box (T := 26) (v := .agg #[.int .i64 m.Rows, .int .i64 m.Cols, .slice B2 m.Cells.length c2]) (cs := [.int .i64 m.Rows, .int .i64 m.Cols, .slice B2 m.Cells.length c2]) (m := 3) hS1 rfl rfl rfl rfl) ?_
  rintro _ w_1 ⟨b1, rfl, hS2⟩
  have hS2 : ST w0 (bl [⟨B, 96, [.bool c.bad], 1⟩, ⟨B2, 44, (m.Cells.flatMap enc_Dyadic), c2 * 5⟩]) _ [⟨B, 96, [.bool c.bad], 1⟩, ⟨B2, 44, (m.Cells.flatMap enc_Dyadic), c2 * 5⟩, ⟨some ⟨b, 0, none⟩, 122, [.int .i64 x.Qubits, .slice B1 x.Gates.length c1], 2⟩, ⟨some ⟨b1, 0, none⟩, 26, [.int .i64 m.Rows, .int .i64 m.Cols, .slice B2 m.Cells.length c2], 3⟩] [⟨B1, (x.Gates.flatMap enc_Gate)⟩] := hS2
  refine ss 6 rfl rfl (Ys_alloc (T := 26) (cs := [.int .i64 0, .int .i64 0, .slice none 0 0]) (m := 3) hS2 k_zero_26 rfl rfl rfl) ?_
  rintro _ w_2 ⟨b2, rfl, hS3⟩
  have hS3 : ST w0 (bl [⟨B, 96, [.bool c.bad], 1⟩, ⟨B2, 44, (m.Cells.flatMap enc_Dyadic), c2 * 5⟩]) _ [⟨B, 96, [.bool c.bad], 1⟩, ⟨B2, 44, (m.Cells.flatMap enc_Dyadic), c2 * 5⟩, ⟨some ⟨b, 0, none⟩, 122, [.int .i64 x.Qubits, .slice B1 x.Gates.length c1], 2⟩, ⟨some ⟨b1, 0, none⟩, 26, [.int .i64 m.Rows, .int .i64 m.Cols, .slice B2 m.Cells.length c2], 3⟩, ⟨some ⟨b2, 0, none⟩, 26, [.int .i64 0, .int .i64 0, .slice none 0 0], 3⟩] [⟨B1, (x.Gates.flatMap enc_Gate)⟩] := hS3
  refine rw_nil ?_
  refine cw_seq ?_
  refine cw_seq ?_
  refine cw_region ?_
  refine sq 9 rfl rfl (Y_fieldAddr (B := some ⟨b, 0, none⟩) (i := 0) (s := 0) k_fd_122_1_1_120 k_sz_120_1 rfl rfl) ?_
  refine sq 10 rfl rfl (Y_load1 (B := some ⟨b, 0, none⟩) (i := 1) (cs := [.int .i64 x.Qubits, .slice B1 x.Gates.length c1]) (v := .slice B1 x.Gates.length c1) k_sc_120 rfl rfl (hS3.cf (i := 2) rfl) rfl) ?_
  refine sq 11 rfl rfl (Y_len (B := B1) (m := x.Gates.length) (c := c1) k_sl_120_124 rfl rfl) ?_
  refine sq 12 rfl rfl (Y_move (v := .int .i64 0) rfl rfl) ?_
  refine rw_nil ?_
  obtain ⟨hN, hF⟩ := chk_inv hF
  obtain ⟨z, hz, hF1⟩ := bind_inv hF
  refine cw_block ?_
  refine cw_loop (fun k f w => ∃ (i : Nat) (bad : Bool) (Rows : Int) (Cols : Int) (Cells : List TDyadic) (B4 : Option Addr) (c4 : Nat), FF f [(0, pt B 0), (4, pt (some ⟨b, 0, none⟩) 0), (5, pt (some ⟨b1, 0, none⟩) 0), (6, pt (some ⟨b2, 0, none⟩) 0), (10, .slice B1 x.Gates.length c1), (11, .int .i64 (x.Gates.length : Int)), (12, .int .i64 (i : Int))] ∧ ST w0 (bl [⟨B, 96, [.bool c.bad], 1⟩, ⟨B2, 44, (m.Cells.flatMap enc_Dyadic), c2 * 5⟩]) w [⟨B, 96, [.bool bad], 1⟩, ⟨some ⟨b, 0, none⟩, 122, [.int .i64 x.Qubits, .slice B1 x.Gates.length c1], 2⟩, ⟨some ⟨b1, 0, none⟩, 26, [.int .i64 Rows, .int .i64 Cols, .slice B4 Cells.length c4], 3⟩, ⟨B4, 44, (Cells.flatMap enc_Dyadic), c4 * 5⟩, ⟨some ⟨b2, 0, none⟩, 26, [.int .i64 0, .int .i64 0, .slice none 0 0], 3⟩] [⟨B1, (x.Gates.flatMap enc_Gate)⟩] ∧ i + k = x.Gates.length ∧ forN (F_spec_l2C_run_l1 x) k i (bad, Rows, Cols, Cells) = some z) x.Gates.length ⟨0, c.bad, m.Rows, m.Cols, m.Cells, B2, c2, (FF.cons rfl (FF.cons rfl (FF.cons rfl (FF.cons rfl (FF.cons rfl (FF.cons rfl (FF.cons rfl FF.nil))))))), (hS3.sel [0, 2, 3, 1, 4] rfl rfl), Nat.zero_add _, hz⟩ ?_
  rintro k_ f w ⟨i, bad, Rows, Cols, Cells, B4, c4, hf, hS4, hik, hL⟩
  refine cw_seq ?_
  refine cw_region ?_
  refine sq 13 rfl rfl (Y_lt (k := .i64) (a := (i : Int)) (b := (x.Gates.length : Int)) rfl (hf.get 12 6 rfl) (hf.get 11 5 rfl)) ?_
  refine rw_nil ?_
  refine cw_seq ?_
  refine cw_cond (b := (decide ((i : Int) < (x.Gates.length : Int)))) rfl (fun hlt => ?_) (fun hlt => ?_)
  · skip
    have hlt1 : i < x.Gates.length := by have h := of_decide_eq_true hlt; omega
    obtain ⟨k_1, rfl⟩ : ∃ k2, k_ = k2 + 1 := ⟨k_ - 1, by omega⟩
    obtain ⟨y, hb, hL1⟩ := forN_go hL
    unfold F_spec_l2C_run_l1 at hb
    refine cw_skip ?_
    refine cw_seq ?_
    obtain ⟨z1, hz1, hF2⟩ := bind_inv hb
    refine cw_mid (fun f w => ∃ (bad1 : Bool) (Rows1 : Int) (Cols1 : Int) (Cells1 : List TDyadic) (B5 : Option Addr) (c5 : Nat), (bad1, Rows1, Cols1, Cells1) = z1 ∧ FF f [(0, pt B 0), (4, pt (some ⟨b, 0, none⟩) 0), (5, pt (some ⟨b1, 0, none⟩) 0), (6, pt (some ⟨b2, 0, none⟩) 0), (10, .slice B1 x.Gates.length c1), (11, .int .i64 (x.Gates.length : Int)), (12, .int .i64 (i : Int))] ∧ ST w0 (bl [⟨B, 96, [.bool c.bad], 1⟩, ⟨B2, 44, (m.Cells.flatMap enc_Dyadic), c2 * 5⟩]) w [⟨B, 96, [.bool bad1], 1⟩, ⟨some ⟨b, 0, none⟩, 122, [.int .i64 x.Qubits, .slice B1 x.Gates.length c1], 2⟩, ⟨some ⟨b1, 0, none⟩, 26, [.int .i64 Rows1, .int .i64 Cols1, .slice B5 Cells1.length c5], 3⟩, ⟨B5, 44, (Cells1.flatMap enc_Dyadic), c5 * 5⟩, ⟨some ⟨b2, 0, none⟩, 26, [.int .i64 0, .int .i64 0, .slice none 0 0], 3⟩] [⟨B1, (x.Gates.flatMap enc_Gate)⟩]) ?_ ?_
    · skip
      refine cw_block ?_
      refine cw_seq ?_
      refine cw_region ?_
      obtain ⟨x1, hx, hz1⟩ := bind_inv hz1
      refine sq 14 rfl rfl (Y_index (B := B1) (m := x.Gates.length) (c := c1) (k := .i64) (i := (i : Int)) k_sl_120_124 k_sz_124_3 rfl (hf.get 10 4 rfl) (hf.get 12 6 rfl) (gi_isSome enc_Gate_len rfl (hS4.rf (i := 0) rfl) hx) (getI_nn hx) (getI_ltI hx rfl)) ?_
      refine sq 15 rfl rfl (Y_loadA (B := B1) (i := (i : Int).toNat * 3) (cs := (x.Gates.flatMap enc_Gate)) (vs := [.int .i64 x1.Kind, .int .i64 x1.A, .int .i64 x1.B]) k_ag_124 k_sz_124_3 rfl rfl (hS4.rf (i := 0) rfl) (enc_Gate_len x1) (gi_seg enc_Gate_len hx)) ?_
      refine ss 8 rfl rfl (Ys_alloc (T := 124) (cs := [.int .i64 0, .int .i64 0, .int .i64 0]) (m := 3) hS4 k_zero_124 rfl rfl rfl) ?_
      rintro _ w_3 ⟨b3, rfl, hS6⟩
      have hS6 : ST w0 (bl [⟨B, 96, [.bool c.bad], 1⟩, ⟨B2, 44, (m.Cells.flatMap enc_Dyadic), c2 * 5⟩]) _ [⟨B, 96, [.bool bad], 1⟩, ⟨some ⟨b, 0, none⟩, 122, [.int .i64 x.Qubits, .slice B1 x.Gates.length c1], 2⟩, ⟨some ⟨b1, 0, none⟩, 26, [.int .i64 Rows, .int .i64 Cols, .slice B4 Cells.length c4], 3⟩, ⟨B4, 44, (Cells.flatMap enc_Dyadic), c4 * 5⟩, ⟨some ⟨b2, 0, none⟩, 26, [.int .i64 0, .int .i64 0, .slice none 0 0], 3⟩, ⟨some ⟨b3, 0, none⟩, 124, [.int .i64 0, .int .i64 0, .int .i64 0], 3⟩] [⟨B1, (x.Gates.flatMap enc_Gate)⟩] := hS6
      refine ss0 rfl rfl (Ys_store (i := 5) (s := 3) (B := some ⟨b3, 0, none⟩) (T' := 124) (v := .agg #[.int .i64 x1.Kind, .int .i64 x1.A, .int .i64 x1.B]) (vs := [.int .i64 x1.Kind, .int .i64 x1.A, .int .i64 x1.B]) (k := 0) (cs' := [.int .i64 x1.Kind, .int .i64 x1.A, .int .i64 x1.B]) hS6 k_sz_124_3 rfl rfl rfl rfl rfl rfl rfl (Nat.le_of_ble_eq_true rfl) rfl rfl) ?_
      rintro _ w_4 ⟨rfl, hS7⟩
      have hS7 : ST w0 (bl [⟨B, 96, [.bool c.bad], 1⟩, ⟨B2, 44, (m.Cells.flatMap enc_Dyadic), c2 * 5⟩]) _ [⟨B, 96, [.bool bad], 1⟩, ⟨some ⟨b, 0, none⟩, 122, [.int .i64 x.Qubits, .slice B1 x.Gates.length c1], 2⟩, ⟨some ⟨b1, 0, none⟩, 26, [.int .i64 Rows, .int .i64 Cols, .slice B4 Cells.length c4], 3⟩, ⟨B4, 44, (Cells.flatMap enc_Dyadic), c4 * 5⟩, ⟨some ⟨b2, 0, none⟩, 26, [.int .i64 0, .int .i64 0, .slice none 0 0], 3⟩, ⟨some ⟨b3, 0, none⟩, 124, [.int .i64 x1.Kind, .int .i64 x1.A, .int .i64 x1.B], 3⟩] [⟨B1, (x.Gates.flatMap enc_Gate)⟩] := hS7
      refine rw_nil ?_
      refine cw_seq ?_
      refine cw_region ?_
      refine sq 16 rfl rfl (Y_move (v := pt B 0) rfl (hf.get 0 0 rfl)) ?_
      refine sq 17 rfl rfl (Y_nilCheck (B := B) (i := 0) rfl rfl) ?_
      refine sq 18 rfl rfl (Y_fieldAddr (B := B) (i := 0) (s := 0) k_fd_96_0_0_4 k_sz_4_1 rfl rfl) ?_
      refine sq 19 rfl rfl (Y_load1 (B := B) (i := 0) (cs := [.bool bad]) (v := .bool bad) k_sc_4 rfl rfl (hS7.cf (i := 0) rfl) rfl) ?_
      refine sq 20 rfl rfl (Y_not (p := bad) rfl rfl) ?_
      refine rw_nil ?_
      refine cw_cond (b := (!bad)) rfl (fun hb1 => ?_) (fun hb1 => ?_)
      · skip
        have hF3 := ct hz1 hb1
        obtain ⟨r_1, hc, hF3⟩ := bind_inv hF3
        obtain ⟨⟨r_2, m2⟩, hc1, hF3⟩ := bind_inv hF3
        refine cw_mid (fun f w => ∃ (B8 : Option Addr) (c8 : Nat), FF f [(0, pt B 0), (4, pt (some ⟨b, 0, none⟩) 0), (5, pt (some ⟨b1, 0, none⟩) 0), (6, pt (some ⟨b2, 0, none⟩) 0), (10, .slice B1 x.Gates.length c1), (11, .int .i64 (x.Gates.length : Int)), (12, .int .i64 (i : Int))] ∧ ST w0 (bl [⟨B, 96, [.bool c.bad], 1⟩, ⟨B2, 44, (m.Cells.flatMap enc_Dyadic), c2 * 5⟩]) w [⟨B, 96, [.bool m2.bad], 1⟩, ⟨some ⟨b, 0, none⟩, 122, [.int .i64 x.Qubits, .slice B1 x.Gates.length c1], 2⟩, ⟨some ⟨b1, 0, none⟩, 26, [.int .i64 r_2.Rows, .int .i64 r_2.Cols, .slice B8 r_2.Cells.length c8], 3⟩, ⟨B8, 44, (r_2.Cells.flatMap enc_Dyadic), c8 * 5⟩, ⟨some ⟨b2, 0, none⟩, 26, [.int .i64 0, .int .i64 0, .slice none 0 0], 3⟩] [⟨B1, (x.Gates.flatMap enc_Gate)⟩]) ?_ ?_
        · skip
          refine ra_start (ST.sel hS7 [1, 3, 4, 5] rfl rfl).fn (by kernel_rfl) ?_
          have hS11 := hS7.drew
          refine ra_q 0 21 (v := pt B 0) rfl rfl rfl (by kernel_rfl) (by kernel_rfl) (by kernel_rfl) (ST.sel hS11 [1, 3, 4, 5] rfl rfl) (fun w' hw' => (Y_move (v := pt B 0) rfl (hf.get 0 0 rfl))) ?_
          refine ra_q 1 22 (v := pt (some ⟨b, 0, none⟩) 0) rfl rfl rfl (by kernel_rfl) (by kernel_rfl) (by kernel_rfl) (ST.sel hS11 [1, 3, 4, 5] rfl rfl) (fun w' hw' => (Y_fieldAddr (B := some ⟨b, 0, none⟩) (i := 0) (s := 0) k_fd_122_0_0_3 k_sz_3_1 rfl (hf.get 4 1 rfl))) ?_
          refine ra_q 2 23 (v := .int .i64 x.Qubits) rfl rfl rfl (by kernel_rfl) (by kernel_rfl) (by kernel_rfl) (ST.sel hS11 [1, 3, 4, 5] rfl rfl) (fun w' hw' => (Y_load1 (B := some ⟨b, 0, none⟩) (i := 0) (cs := [.int .i64 x.Qubits, .slice B1 x.Gates.length c1]) (v := .int .i64 x.Qubits) k_sc_3 rfl rfl (ST.cf hw' (i := 0) rfl) rfl)) ?_
          refine ra_q 3 24 (v := .agg #[.int .i64 x1.Kind, .int .i64 x1.A, .int .i64 x1.B]) rfl rfl rfl (by kernel_rfl) (by kernel_rfl) (by kernel_rfl) (ST.sel hS11 [1, 3, 4, 5] rfl rfl) (fun w' hw' => (Y_loadA (B := some ⟨b3, 0, none⟩) (i := 0) (cs := [.int .i64 x1.Kind, .int .i64 x1.A, .int .i64 x1.B]) (vs := [.int .i64 x1.Kind, .int .i64 x1.A, .int .i64 x1.B]) k_ag_124 k_sz_124_3 rfl rfl (ST.cf hw' (i := 3) rfl) rfl rfl)) ?_
          refine ra_all (rs := [4, 5]) (by kernel_rfl) rfl ?_
          refine ra_c 25 (i := 4) rfl rfl rfl (Yc_func (g := 166) (vs := [.int .i64 x.Qubits, .agg #[.int .i64 x1.Kind, .int .i64 x1.A, .int .i64 x1.B]]) k_call_166 rfl (mc rfl (mc rfl mn)) (c_spec_l6Gate x.Qubits x1 _  (hS11.inn0 [] rfl) hc)) ?_ ?_
          · rintro _ w_5 ⟨B6, c6, rfl, hd⟩
            have hS12 := hS11.out0 hd
            have hS12 : ST w0 (bl [⟨B, 96, [.bool c.bad], 1⟩, ⟨B2, 44, (m.Cells.flatMap enc_Dyadic), c2 * 5⟩]) _ [⟨B, 96, [.bool bad], 1⟩, ⟨some ⟨b, 0, none⟩, 122, [.int .i64 x.Qubits, .slice B1 x.Gates.length c1], 2⟩, ⟨some ⟨b1, 0, none⟩, 26, [.int .i64 Rows, .int .i64 Cols, .slice B4 Cells.length c4], 3⟩, ⟨B4, 44, (Cells.flatMap enc_Dyadic), c4 * 5⟩, ⟨some ⟨b2, 0, none⟩, 26, [.int .i64 0, .int .i64 0, .slice none 0 0], 3⟩, ⟨some ⟨b3, 0, none⟩, 124, [.int .i64 x1.Kind, .int .i64 x1.A, .int .i64 x1.B], 3⟩, ⟨B6, 44, (r_1.Cells.flatMap enc_Dyadic), c6 * 5⟩] [⟨B1, (x.Gates.flatMap enc_Gate)⟩] := hS12
            refine ⟨(ST.sel hS12 [1, 3, 4, 5] rfl rfl), ?_⟩
            refine ra_all (rs := [5]) (by kernel_rfl) rfl ?_
            refine ra_y 26 (i := 5) (v := .agg #[.int .i64 Rows, .int .i64 Cols, .slice B4 Cells.length c4]) rfl rfl rfl (Y_loadA (B := some ⟨b1, 0, none⟩) (i := 0) (cs := [.int .i64 Rows, .int .i64 Cols, .slice B4 Cells.length c4]) (vs := [.int .i64 Rows, .int .i64 Cols, .slice B4 Cells.length c4]) k_ag_26 k_sz_26_3 rfl (hf.get 5 2 rfl) (hS12.cf (i := 2) rfl) rfl rfl) (ST.sel hS12 [1, 3, 4, 5] rfl rfl) ?_ ?_
            · skip
              refine ra_all (rs := [6]) (by kernel_rfl) rfl ?_
              refine ra_c 27 (i := 6) rfl rfl rfl (Yc_func (g := 63) (vs := [pt B 0, .agg #[.int .i64 r_1.Rows, .int .i64 r_1.Cols, .slice B6 r_1.Cells.length c6], .agg #[.int .i64 Rows, .int .i64 Cols, .slice B4 Cells.length c4]]) k_call_63 rfl (mc rfl (mc rfl (mc rfl mn))) (c_spec_l2C_times (Tl2C.mk bad) r_1 (TMatrix.mk Rows Cols Cells) B B6 c6 r_1.Cells.length B4 c4 Cells.length _ rfl rfl (hS12.inn [true, false, false, false, false, false, false] rfl [(false, 5), (false, 2)] rfl) hc1)) ?_ ?_
              · rintro _ w_6 ⟨B7, c7, rfl, hd1⟩
                have hS13 := hS12.out [true, false, false, false, false, false, false] rfl hd1
                have hS13 : ST w0 (bl [⟨B, 96, [.bool c.bad], 1⟩, ⟨B2, 44, (m.Cells.flatMap enc_Dyadic), c2 * 5⟩]) _ [⟨some ⟨b, 0, none⟩, 122, [.int .i64 x.Qubits, .slice B1 x.Gates.length c1], 2⟩, ⟨some ⟨b1, 0, none⟩, 26, [.int .i64 Rows, .int .i64 Cols, .slice B4 Cells.length c4], 3⟩, ⟨B4, 44, (Cells.flatMap enc_Dyadic), c4 * 5⟩, ⟨some ⟨b2, 0, none⟩, 26, [.int .i64 0, .int .i64 0, .slice none 0 0], 3⟩, ⟨some ⟨b3, 0, none⟩, 124, [.int .i64 x1.Kind, .int .i64 x1.A, .int .i64 x1.B], 3⟩, ⟨B6, 44, (r_1.Cells.flatMap enc_Dyadic), c6 * 5⟩, ⟨B, 96, [.bool m2.bad], 1⟩, ⟨B7, 44, (r_2.Cells.flatMap enc_Dyadic), c7 * 5⟩] [⟨B1, (x.Gates.flatMap enc_Gate)⟩] := hS13
                refine ⟨(ST.sel hS13 [0, 2, 3, 4] rfl rfl), ?_⟩
                refine ra_all (rs := [7]) (by kernel_rfl) rfl ?_
                refine ra_s0 (i := 7) rfl rfl rfl (Ys_store (i := 1) (s := 3) (B := some ⟨b1, 0, none⟩) (T' := 26) (v := .agg #[.int .i64 r_2.Rows, .int .i64 r_2.Cols, .slice B7 r_2.Cells.length c7]) (vs := [.int .i64 r_2.Rows, .int .i64 r_2.Cols, .slice B7 r_2.Cells.length c7]) (k := 0) (cs' := [.int .i64 r_2.Rows, .int .i64 r_2.Cols, .slice B7 r_2.Cells.length c7]) hS13 k_sz_26_3 rfl (hf.get 5 2 rfl) rfl rfl rfl rfl rfl (Nat.le_of_ble_eq_true rfl) rfl rfl) ?_ ?_
                · rintro _ w_7 ⟨rfl, hS14⟩
                  have hS14 : ST w0 (bl [⟨B, 96, [.bool c.bad], 1⟩, ⟨B2, 44, (m.Cells.flatMap enc_Dyadic), c2 * 5⟩]) _ [⟨some ⟨b, 0, none⟩, 122, [.int .i64 x.Qubits, .slice B1 x.Gates.length c1], 2⟩, ⟨some ⟨b1, 0, none⟩, 26, [.int .i64 r_2.Rows, .int .i64 r_2.Cols, .slice B7 r_2.Cells.length c7], 3⟩, ⟨B4, 44, (Cells.flatMap enc_Dyadic), c4 * 5⟩, ⟨some ⟨b2, 0, none⟩, 26, [.int .i64 0, .int .i64 0, .slice none 0 0], 3⟩, ⟨some ⟨b3, 0, none⟩, 124, [.int .i64 x1.Kind, .int .i64 x1.A, .int .i64 x1.B], 3⟩, ⟨B6, 44, (r_1.Cells.flatMap enc_Dyadic), c6 * 5⟩, ⟨B, 96, [.bool m2.bad], 1⟩, ⟨B7, 44, (r_2.Cells.flatMap enc_Dyadic), c7 * 5⟩] [⟨B1, (x.Gates.flatMap enc_Gate)⟩] := hS14
                  refine ⟨(ST.sel hS14 [0, 2, 3, 4] rfl rfl), ?_⟩
                  refine ra_done (by kernel_rfl) ?_
                  exact ⟨B7, c7, (FF.cons (hf.get 0 0 rfl) (FF.cons (hf.get 4 1 rfl) (FF.cons (hf.get 5 2 rfl) (FF.cons (hf.get 6 3 rfl) (FF.cons (hf.get 10 4 rfl) (FF.cons (hf.get 11 5 rfl) (FF.cons (hf.get 12 6 rfl) FF.nil))))))), (hS14.sel [6, 0, 1, 7, 3] rfl rfl)⟩
                exact allR_nil
              exact allR_nil
            exact allR_nil
          refine ra_y 26 (i := 5) (v := .agg #[.int .i64 Rows, .int .i64 Cols, .slice B4 Cells.length c4]) rfl rfl rfl (Y_loadA (B := some ⟨b1, 0, none⟩) (i := 0) (cs := [.int .i64 Rows, .int .i64 Cols, .slice B4 Cells.length c4]) (vs := [.int .i64 Rows, .int .i64 Cols, .slice B4 Cells.length c4]) k_ag_26 k_sz_26_3 rfl (hf.get 5 2 rfl) (hS11.cf (i := 2) rfl) rfl rfl) (ST.sel hS11 [1, 3, 4, 5] rfl rfl) ?_ ?_
          · skip
            refine ra_all (rs := [4]) (by kernel_rfl) rfl ?_
            refine ra_c 25 (i := 4) rfl rfl rfl (Yc_func (g := 166) (vs := [.int .i64 x.Qubits, .agg #[.int .i64 x1.Kind, .int .i64 x1.A, .int .i64 x1.B]]) k_call_166 rfl (mc rfl (mc rfl mn)) (c_spec_l6Gate x.Qubits x1 _  (hS11.inn0 [] rfl) hc)) ?_ ?_
            · rintro _ w_8 ⟨B6, c6, rfl, hd2⟩
              have hS15 := hS11.out0 hd2
              have hS15 : ST w0 (bl [⟨B, 96, [.bool c.bad], 1⟩, ⟨B2, 44, (m.Cells.flatMap enc_Dyadic), c2 * 5⟩]) _ [⟨B, 96, [.bool bad], 1⟩, ⟨some ⟨b, 0, none⟩, 122, [.int .i64 x.Qubits, .slice B1 x.Gates.length c1], 2⟩, ⟨some ⟨b1, 0, none⟩, 26, [.int .i64 Rows, .int .i64 Cols, .slice B4 Cells.length c4], 3⟩, ⟨B4, 44, (Cells.flatMap enc_Dyadic), c4 * 5⟩, ⟨some ⟨b2, 0, none⟩, 26, [.int .i64 0, .int .i64 0, .slice none 0 0], 3⟩, ⟨some ⟨b3, 0, none⟩, 124, [.int .i64 x1.Kind, .int .i64 x1.A, .int .i64 x1.B], 3⟩, ⟨B6, 44, (r_1.Cells.flatMap enc_Dyadic), c6 * 5⟩] [⟨B1, (x.Gates.flatMap enc_Gate)⟩] := hS15
              refine ⟨(ST.sel hS15 [1, 3, 4, 5] rfl rfl), ?_⟩
              refine ra_all (rs := [6]) (by kernel_rfl) rfl ?_
              refine ra_c 27 (i := 6) rfl rfl rfl (Yc_func (g := 63) (vs := [pt B 0, .agg #[.int .i64 r_1.Rows, .int .i64 r_1.Cols, .slice B6 r_1.Cells.length c6], .agg #[.int .i64 Rows, .int .i64 Cols, .slice B4 Cells.length c4]]) k_call_63 rfl (mc rfl (mc rfl (mc rfl mn))) (c_spec_l2C_times (Tl2C.mk bad) r_1 (TMatrix.mk Rows Cols Cells) B B6 c6 r_1.Cells.length B4 c4 Cells.length _ rfl rfl (hS15.inn [true, false, false, false, false, false, false] rfl [(false, 5), (false, 2)] rfl) hc1)) ?_ ?_
              · rintro _ w_9 ⟨B7, c7, rfl, hd3⟩
                have hS16 := hS15.out [true, false, false, false, false, false, false] rfl hd3
                have hS16 : ST w0 (bl [⟨B, 96, [.bool c.bad], 1⟩, ⟨B2, 44, (m.Cells.flatMap enc_Dyadic), c2 * 5⟩]) _ [⟨some ⟨b, 0, none⟩, 122, [.int .i64 x.Qubits, .slice B1 x.Gates.length c1], 2⟩, ⟨some ⟨b1, 0, none⟩, 26, [.int .i64 Rows, .int .i64 Cols, .slice B4 Cells.length c4], 3⟩, ⟨B4, 44, (Cells.flatMap enc_Dyadic), c4 * 5⟩, ⟨some ⟨b2, 0, none⟩, 26, [.int .i64 0, .int .i64 0, .slice none 0 0], 3⟩, ⟨some ⟨b3, 0, none⟩, 124, [.int .i64 x1.Kind, .int .i64 x1.A, .int .i64 x1.B], 3⟩, ⟨B6, 44, (r_1.Cells.flatMap enc_Dyadic), c6 * 5⟩, ⟨B, 96, [.bool m2.bad], 1⟩, ⟨B7, 44, (r_2.Cells.flatMap enc_Dyadic), c7 * 5⟩] [⟨B1, (x.Gates.flatMap enc_Gate)⟩] := hS16
                refine ⟨(ST.sel hS16 [0, 2, 3, 4] rfl rfl), ?_⟩
                refine ra_all (rs := [7]) (by kernel_rfl) rfl ?_
                refine ra_s0 (i := 7) rfl rfl rfl (Ys_store (i := 1) (s := 3) (B := some ⟨b1, 0, none⟩) (T' := 26) (v := .agg #[.int .i64 r_2.Rows, .int .i64 r_2.Cols, .slice B7 r_2.Cells.length c7]) (vs := [.int .i64 r_2.Rows, .int .i64 r_2.Cols, .slice B7 r_2.Cells.length c7]) (k := 0) (cs' := [.int .i64 r_2.Rows, .int .i64 r_2.Cols, .slice B7 r_2.Cells.length c7]) hS16 k_sz_26_3 rfl (hf.get 5 2 rfl) rfl rfl rfl rfl rfl (Nat.le_of_ble_eq_true rfl) rfl rfl) ?_ ?_
                · rintro _ w_10 ⟨rfl, hS17⟩
                  have hS17 : ST w0 (bl [⟨B, 96, [.bool c.bad], 1⟩, ⟨B2, 44, (m.Cells.flatMap enc_Dyadic), c2 * 5⟩]) _ [⟨some ⟨b, 0, none⟩, 122, [.int .i64 x.Qubits, .slice B1 x.Gates.length c1], 2⟩, ⟨some ⟨b1, 0, none⟩, 26, [.int .i64 r_2.Rows, .int .i64 r_2.Cols, .slice B7 r_2.Cells.length c7], 3⟩, ⟨B4, 44, (Cells.flatMap enc_Dyadic), c4 * 5⟩, ⟨some ⟨b2, 0, none⟩, 26, [.int .i64 0, .int .i64 0, .slice none 0 0], 3⟩, ⟨some ⟨b3, 0, none⟩, 124, [.int .i64 x1.Kind, .int .i64 x1.A, .int .i64 x1.B], 3⟩, ⟨B6, 44, (r_1.Cells.flatMap enc_Dyadic), c6 * 5⟩, ⟨B, 96, [.bool m2.bad], 1⟩, ⟨B7, 44, (r_2.Cells.flatMap enc_Dyadic), c7 * 5⟩] [⟨B1, (x.Gates.flatMap enc_Gate)⟩] := hS17
                  refine ⟨(ST.sel hS17 [0, 2, 3, 4] rfl rfl), ?_⟩
                  refine ra_done (by kernel_rfl) ?_
                  exact ⟨B7, c7, (FF.cons (hf.get 0 0 rfl) (FF.cons (hf.get 4 1 rfl) (FF.cons (hf.get 5 2 rfl) (FF.cons (hf.get 6 3 rfl) (FF.cons (hf.get 10 4 rfl) (FF.cons (hf.get 11 5 rfl) (FF.cons (hf.get 12 6 rfl) FF.nil))))))), (hS17.sel [6, 0, 1, 7, 3] rfl rfl)⟩
                exact allR_nil
              exact allR_nil
            exact allR_nil
          exact allR_nil
        rintro f w ⟨B8, c8, hf2, hS10⟩
        exact ⟨m2.bad, r_2.Rows, r_2.Cols, r_2.Cells, B8, c8, (some_inj hF3), (FF.cons (hf2.get 0 0 rfl) (FF.cons (hf2.get 4 1 rfl) (FF.cons (hf2.get 5 2 rfl) (FF.cons (hf2.get 6 3 rfl) (FF.cons (hf2.get 10 4 rfl) (FF.cons (hf2.get 11 5 rfl) (FF.cons (hf2.get 12 6 rfl) FF.nil))))))), (hS10.sel [0, 1, 2, 3, 4] rfl rfl)⟩
      · skip
        have hF4 := cf' hz1 hb1
        refine cw_skip ?_
        exact ⟨bad, Rows, Cols, Cells, B4, c4, (some_inj hF4), (FF.cons (hf.get 0 0 rfl) (FF.cons (hf.get 4 1 rfl) (FF.cons (hf.get 5 2 rfl) (FF.cons (hf.get 6 3 rfl) (FF.cons (hf.get 10 4 rfl) (FF.cons (hf.get 11 5 rfl) (FF.cons (hf.get 12 6 rfl) FF.nil))))))), (hS7.sel [0, 1, 2, 3, 4] rfl rfl)⟩
    rintro f w ⟨bad1, Rows1, Cols1, Cells1, B5, c5, rfl, hf1, hS5⟩
    refine cw_region ?_
    refine sq 28 rfl rfl (Y_add (k := .i64) (a := (i : Int)) (b := 1) rfl (hf1.get 12 6 rfl) rfl) ?_
    refine sq 12 rfl rfl (Y_move (v := .int .i64 (IntKind.i64.wrap ((i : Int) + 1))) rfl rfl) ?_
    refine rw_nil ?_
    obtain rfl := some_inj hF2
    exact ⟨k_1, Nat.lt_succ_self _, i + 1, bad1, Rows1, Cols1, Cells1, B5, c5, (FF.cons (hf1.get 0 0 rfl) (FF.cons (hf1.get 4 1 rfl) (FF.cons (hf1.get 5 2 rfl) (FF.cons (hf1.get 6 3 rfl) (FF.cons (hf1.get 10 4 rfl) (FF.cons (hf1.get 11 5 rfl) (FF.cons (congrArg (Value.int .i64) (wr_succ hlt1 hN)) FF.nil))))))), (hS5.sel [0, 1, 2, 3, 4] rfl rfl), (by omega), hL1⟩
  · skip
    obtain rfl : k_ = 0 := by have h := of_decide_eq_false hlt; omega
    refine cw_exit rfl ?_
    obtain rfl := some_inj hL
    refine cw_seq ?_
    refine cw_region ?_
    refine sq 29 rfl rfl (Y_loadA (B := some ⟨b1, 0, none⟩) (i := 0) (cs := [.int .i64 Rows, .int .i64 Cols, .slice B4 Cells.length c4]) (vs := [.int .i64 Rows, .int .i64 Cols, .slice B4 Cells.length c4]) k_ag_26 k_sz_26_3 rfl (hf.get 5 2 rfl) (hS4.cf (i := 2) rfl) rfl rfl) ?_
    refine ss0 rfl rfl (Ys_store (i := 4) (s := 3) (B := some ⟨b2, 0, none⟩) (T' := 26) (v := .agg #[.int .i64 Rows, .int .i64 Cols, .slice B4 Cells.length c4]) (vs := [.int .i64 Rows, .int .i64 Cols, .slice B4 Cells.length c4]) (k := 0) (cs' := [.int .i64 Rows, .int .i64 Cols, .slice B4 Cells.length c4]) hS4 k_sz_26_3 rfl (hf.get 6 3 rfl) rfl rfl rfl rfl rfl (Nat.le_of_ble_eq_true rfl) rfl rfl) ?_
    rintro _ w_11 ⟨rfl, hS18⟩
    have hS18 : ST w0 (bl [⟨B, 96, [.bool c.bad], 1⟩, ⟨B2, 44, (m.Cells.flatMap enc_Dyadic), c2 * 5⟩]) _ [⟨B, 96, [.bool bad], 1⟩, ⟨some ⟨b, 0, none⟩, 122, [.int .i64 x.Qubits, .slice B1 x.Gates.length c1], 2⟩, ⟨some ⟨b1, 0, none⟩, 26, [.int .i64 Rows, .int .i64 Cols, .slice B4 Cells.length c4], 3⟩, ⟨B4, 44, (Cells.flatMap enc_Dyadic), c4 * 5⟩, ⟨some ⟨b2, 0, none⟩, 26, [.int .i64 Rows, .int .i64 Cols, .slice B4 Cells.length c4], 3⟩] [⟨B1, (x.Gates.flatMap enc_Gate)⟩] := hS18
    refine rw_nil ?_
    refine cw_ret ?_
    obtain ⟨rfl, rfl⟩ := pr2 (some_inj hF1)
    exact ret1 Try.results133 (v1 := .agg #[.int .i64 Rows, .int .i64 Cols, .slice B4 Cells.length c4]) (resAt_cellA (B := some ⟨b2, 0, none⟩) (i := 0) (cs := [.int .i64 Rows, .int .i64 Cols, .slice B4 Cells.length c4]) (vs := [.int .i64 Rows, .int .i64 Cols, .slice B4 Cells.length c4]) (hf.get 6 3 rfl) k_ag_26 k_sz_26_3 (hS18.cf (i := 4) rfl) rfl rfl) ⟨B4, c4, rfl, (ST.subR (R' := []) (hS18.sel [0, 3] rfl rfl) (fun _ h => by cases h))⟩

theorem c_spec_l6Op (x : TCircuit) (B : Option Addr) (c n : Nat) (w0 : World) (hn : x.Gates.length = n) (hS : ST w0 [] w0 [] [⟨B, (x.Gates.flatMap enc_Gate)⟩]) {r_ : TMatrix} (hF : F_spec_l6Op x = some r_) :
    CV Try.prog 98 #[.agg #[.int .i64 x.Qubits, .slice B n c]] w0 (fun v w' => ∃ (B1 : Option Addr) (c1 : Nat), v = .agg #[.int .i64 r_.Rows, .int .i64 r_.Cols, .slice B1 r_.Cells.length c1] ∧ ST w0 [] w' [⟨B1, 44, (r_.Cells.flatMap enc_Dyadic), c1 * 5⟩] []) := by
  subst hn
  unfold F_spec_l6Op at hF
  refine cv_of_cw 14 Try.func98 rfl Try.ntmps98 rfl ?_
  refine cw_seq ?_
  refine cw_region ?_
  refine ss 1 rfl rfl (Ys_box (T := 122) (v := .agg #[.int .i64 x.Qubits, .slice B x.Gates.length c]) (cs := [.int .i64 x.Qubits, .slice B x.Gates.length c]) (m := 2) hS rfl rfl rfl rfl) ?_
  rintro _ w_ ⟨b, rfl, hS1⟩
  refine ss 2 rfl rfl (Ys_alloc (T := 26) (cs := [.int .i64 0, .int .i64 0, .slice none 0 0]) (m := 3) hS1 k_zero_26 rfl rfl rfl) ?_
  rintro _ w_1 ⟨b1, rfl, hS2⟩
  have hS2 : ST w0 [] _ [⟨some ⟨b, 0, none⟩, 122, [.int .i64 x.Qubits, .slice B x.Gates.length c], 2⟩, ⟨some ⟨b1, 0, none⟩, 26, [.int .i64 0, .int .i64 0, .slice none 0 0], 3⟩] [⟨B, (x.Gates.flatMap enc_Gate)⟩] := hS2
  refine rw_nil ?_
  refine cw_seq ?_
  refine cw_region ?_
  refine sq 4 rfl rfl (Y_buildS (zs := [.bool false]) (vs := []) (cs := [.bool false]) k_pl_96 k_zero_96 rfl mpn rfl) ?_
  refine ss 5 rfl rfl (Ys_box (T := 96) (v := .agg #[.bool false]) (cs := [.bool false]) (m := 1) hS2 rfl rfl rfl rfl) ?_
  rintro _ w_2 ⟨b2, rfl, hS3⟩
  have hS3 : ST w0 [] _ [⟨some ⟨b, 0, none⟩, 122, [.int .i64 x.Qubits, .slice B x.Gates.length c], 2⟩, ⟨some ⟨b1, 0, none⟩, 26, [.int .i64 0, .int .i64 0, .slice none 0 0], 3⟩, ⟨some ⟨b2, 0, none⟩, 96, [.bool false], 1⟩] [⟨B, (x.Gates.flatMap enc_Gate)⟩] := hS3
  refine sq 3 rfl rfl (Y_assign (v := pt (some ⟨b2, 0, none⟩) 0) rfl rfl) ?_
  refine rw_nil ?_
  refine cw_seq ?_
  obtain ⟨hsh, hF⟩ := chk_inv hF
  obtain ⟨r_1, hc, hF⟩ := bind_inv hF
  obtain ⟨⟨r_2, m⟩, hc1, hF⟩ := bind_inv hF
  refine ra_start (ST.sel hS3 [0] rfl rfl).fn (by kernel_rfl) ?_
  have hS6 := hS3.drew
  refine ra_q 0 6 (v := pt (some ⟨b2, 0, none⟩) 0) rfl rfl rfl (by kernel_rfl) (by kernel_rfl) (by kernel_rfl) (ST.sel hS6 [0] rfl rfl) (fun w' hw' => (Y_move (v := pt (some ⟨b2, 0, none⟩) 0) rfl rfl)) ?_
  refine ra_q 1 7 (v := .agg #[.int .i64 x.Qubits, .slice B x.Gates.length c]) rfl rfl rfl (by kernel_rfl) (by kernel_rfl) (by kernel_rfl) (ST.sel hS6 [0] rfl rfl) (fun w' hw' => (Y_loadA (B := some ⟨b, 0, none⟩) (i := 0) (cs := [.int .i64 x.Qubits, .slice B x.Gates.length c]) (vs := [.int .i64 x.Qubits, .slice B x.Gates.length c]) k_ag_122 k_sz_122_2 rfl rfl (ST.cf hw' (i := 0) rfl) rfl rfl)) ?_
  refine ra_q 2 8 (v := pt (some ⟨b, 0, none⟩) 0) rfl rfl rfl (by kernel_rfl) (by kernel_rfl) (by kernel_rfl) (ST.sel hS6 [0] rfl rfl) (fun w' hw' => (Y_fieldAddr (B := some ⟨b, 0, none⟩) (i := 0) (s := 0) k_fd_122_0_0_3 k_sz_3_1 rfl rfl)) ?_
  refine ra_q 3 9 (v := .int .i64 x.Qubits) rfl rfl rfl (by kernel_rfl) (by kernel_rfl) (by kernel_rfl) (ST.sel hS6 [0] rfl rfl) (fun w' hw' => (Y_load1 (B := some ⟨b, 0, none⟩) (i := 0) (cs := [.int .i64 x.Qubits, .slice B x.Gates.length c]) (v := .int .i64 x.Qubits) k_sc_3 rfl rfl (ST.cf hw' (i := 0) rfl) rfl)) ?_
  refine ra_q 4 10 (v := .int .u64 (IntKind.u64.wrap x.Qubits)) rfl rfl rfl (by kernel_rfl) (by kernel_rfl) (by kernel_rfl) (ST.sel hS6 [0] rfl rfl) (fun w' hw' => (Y_conv (k := .i64) (a := x.Qubits) (T := 3) (T' := 63) k_us_3 k_int_63_u64 rfl rfl)) ?_
  refine ra_q 5 11 (v := .int .i64 (shlK .i64 1 (IntKind.u64.wrap x.Qubits))) rfl rfl rfl (by kernel_rfl) (by kernel_rfl) (by kernel_rfl) (ST.sel hS6 [0] rfl rfl) (fun w' hw' => (Y_shl (k := .i64) (a := 1) (k' := .u64) (b := (IntKind.u64.wrap x.Qubits)) rfl rfl rfl hsh)) ?_
  refine ra_all (rs := [6]) (by kernel_rfl) rfl ?_
  refine ra_c 12 (i := 6) rfl rfl rfl (Yc_func (g := 109) (vs := [.int .i64 (shlK .i64 1 (IntKind.u64.wrap x.Qubits))]) k_call_109 rfl (mc rfl mn) (c_spec_l3Unit (shlK .i64 1 (IntKind.u64.wrap x.Qubits)) _  (hS6.inn0 [] rfl) hc)) ?_ ?_
  · rintro _ w_3 ⟨B2, c2, rfl, hd⟩
    have hS7 := hS6.out0 hd
    have hS7 : ST w0 [] _ [⟨some ⟨b, 0, none⟩, 122, [.int .i64 x.Qubits, .slice B x.Gates.length c], 2⟩, ⟨some ⟨b1, 0, none⟩, 26, [.int .i64 0, .int .i64 0, .slice none 0 0], 3⟩, ⟨some ⟨b2, 0, none⟩, 96, [.bool false], 1⟩, ⟨B2, 44, (r_1.Cells.flatMap enc_Dyadic), c2 * 5⟩] [⟨B, (x.Gates.flatMap enc_Gate)⟩] := hS7
    refine ⟨(ST.sel hS7 [0] rfl rfl), ?_⟩
    refine ra_all (rs := [7]) (by kernel_rfl) rfl ?_
    refine ra_c 13 (i := 7) rfl rfl rfl (Yc_func (g := 133) (vs := [pt (some ⟨b2, 0, none⟩) 0, .agg #[.int .i64 x.Qubits, .slice B x.Gates.length c], .agg #[.int .i64 r_1.Rows, .int .i64 r_1.Cols, .slice B2 r_1.Cells.length c2]]) k_call_133 rfl (mc rfl (mc rfl (mc rfl mn))) (c_spec_l2C_run (Tl2C.mk false) x r_1 (some ⟨b2, 0, none⟩) B c x.Gates.length B2 c2 r_1.Cells.length _ rfl rfl (hS7.inn [false, false, true, true] rfl [(true, 0)] rfl) hc1)) ?_ ?_
    · rintro _ w_4 ⟨B3, c3, rfl, hd1⟩
      have hS8 := hS7.out [false, false, true, true] rfl hd1
      have hS8 : ST w0 [] _ [⟨some ⟨b, 0, none⟩, 122, [.int .i64 x.Qubits, .slice B x.Gates.length c], 2⟩, ⟨some ⟨b1, 0, none⟩, 26, [.int .i64 0, .int .i64 0, .slice none 0 0], 3⟩, ⟨some ⟨b2, 0, none⟩, 96, [.bool m.bad], 1⟩, ⟨B3, 44, (r_2.Cells.flatMap enc_Dyadic), c3 * 5⟩] [⟨B, (x.Gates.flatMap enc_Gate)⟩] := hS8
      refine ⟨(ST.sel hS8 [0] rfl rfl), ?_⟩
      refine ra_all (rs := [8]) (by kernel_rfl) rfl ?_
      refine ra_s0 (i := 8) rfl rfl rfl (Ys_store (i := 1) (s := 3) (B := some ⟨b1, 0, none⟩) (T' := 26) (v := .agg #[.int .i64 r_2.Rows, .int .i64 r_2.Cols, .slice B3 r_2.Cells.length c3]) (vs := [.int .i64 r_2.Rows, .int .i64 r_2.Cols, .slice B3 r_2.Cells.length c3]) (k := 0) (cs' := [.int .i64 r_2.Rows, .int .i64 r_2.Cols, .slice B3 r_2.Cells.length c3]) hS8 k_sz_26_3 rfl rfl rfl rfl rfl rfl rfl (Nat.le_of_ble_eq_true rfl) rfl rfl) ?_ ?_
      · rintro _ w_5 ⟨rfl, hS9⟩
        have hS9 : ST w0 [] _ [⟨some ⟨b, 0, none⟩, 122, [.int .i64 x.Qubits, .slice B x.Gates.length c], 2⟩, ⟨some ⟨b1, 0, none⟩, 26, [.int .i64 r_2.Rows, .int .i64 r_2.Cols, .slice B3 r_2.Cells.length c3], 3⟩, ⟨some ⟨b2, 0, none⟩, 96, [.bool m.bad], 1⟩, ⟨B3, 44, (r_2.Cells.flatMap enc_Dyadic), c3 * 5⟩] [⟨B, (x.Gates.flatMap enc_Gate)⟩] := hS9
        refine ⟨(ST.sel hS9 [0] rfl rfl), ?_⟩
        refine ra_done (by kernel_rfl) ?_
        refine cw_ret ?_
        obtain rfl := some_inj hF
        exact ret1 Try.results98 (v1 := .agg #[.int .i64 r_2.Rows, .int .i64 r_2.Cols, .slice B3 r_2.Cells.length c3]) (resAt_cellA (B := some ⟨b1, 0, none⟩) (i := 0) (cs := [.int .i64 r_2.Rows, .int .i64 r_2.Cols, .slice B3 r_2.Cells.length c3]) (vs := [.int .i64 r_2.Rows, .int .i64 r_2.Cols, .slice B3 r_2.Cells.length c3]) rfl k_ag_26 k_sz_26_3 (hS9.cf (i := 1) rfl) rfl rfl) ⟨B3, c3, rfl, (ST.subR (R' := []) (hS9.sel [3] rfl rfl) (fun _ h => by cases h))⟩
      exact allR_nil
    exact allR_nil
  exact allR_nil

theorem c_spec_l7Op (n : Int) (p : TPauli)  (w0 : World)  (hS : ST w0 [] w0 [] []) {r_ : TMatrix} (hF : F_spec_l7Op n p = some r_) :
    CV Try.prog 41 #[.int .i64 n, .agg #[.int .i64 p.Phase, .int .i64 p.X, .int .i64 p.Z]] w0 (fun v w' => ∃ (B : Option Addr) (c : Nat), v = .agg #[.int .i64 r_.Rows, .int .i64 r_.Cols, .slice B r_.Cells.length c] ∧ ST w0 [] w' [⟨B, 44, (r_.Cells.flatMap enc_Dyadic), c * 5⟩] []) := by
  unfold F_spec_l7Op at hF
  refine cv_of_cw 47 Try.func41 rfl Try.ntmps41 rfl ?_
  refine cw_seq ?_
  refine cw_region ?_
  refine ss 3 rfl rfl (Ys_box (T := 29) (v := .agg #[.int .i64 p.Phase, .int .i64 p.X, .int .i64 p.Z]) (cs := [.int .i64 p.Phase, .int .i64 p.X, .int .i64 p.Z]) (m := 3) hS rfl rfl rfl rfl) ?_
  rintro _ w_ ⟨b, rfl, hS1⟩
  refine ss 4 rfl rfl (Ys_alloc (T := 26) (cs := [.int .i64 0, .int .i64 0, .slice none 0 0]) (m := 3) hS1 k_zero_26 rfl rfl rfl) ?_
  rintro _ w_1 ⟨b1, rfl, hS2⟩
  have hS2 : ST w0 [] _ [⟨some ⟨b, 0, none⟩, 29, [.int .i64 p.Phase, .int .i64 p.X, .int .i64 p.Z], 3⟩, ⟨some ⟨b1, 0, none⟩, 26, [.int .i64 0, .int .i64 0, .slice none 0 0], 3⟩] [] := hS2
  refine rw_nil ?_
  refine cw_seq ?_
  refine cw_region ?_
  refine sq 9 rfl rfl (Y_move (v := .int .i64 n) rfl rfl) ?_
  refine sq 10 rfl rfl (Y_buildS (zs := [.int .i64 0, .slice none 0 0]) (vs := [(0, .int .i64 n)]) (cs := [.int .i64 n, .slice none 0 0]) k_pl_122 k_zero_122 rfl (mpc rfl mpn) rfl) ?_
  refine ss 5 rfl rfl (Ys_alloc (T := 122) (cs := [.int .i64 0, .slice none 0 0]) (m := 2) hS2 k_zero_122 rfl rfl rfl) ?_
  rintro _ w_2 ⟨b2, rfl, hS3⟩
  have hS3 : ST w0 [] _ [⟨some ⟨b, 0, none⟩, 29, [.int .i64 p.Phase, .int .i64 p.X, .int .i64 p.Z], 3⟩, ⟨some ⟨b1, 0, none⟩, 26, [.int .i64 0, .int .i64 0, .slice none 0 0], 3⟩, ⟨some ⟨b2, 0, none⟩, 122, [.int .i64 0, .slice none 0 0], 2⟩] [] := hS3
  refine ss0 rfl rfl (Ys_store (i := 2) (s := 2) (B := some ⟨b2, 0, none⟩) (T' := 122) (v := .agg #[.int .i64 n, .slice none 0 0]) (vs := [.int .i64 n, .slice none 0 0]) (k := 0) (cs' := [.int .i64 n, .slice none 0 0]) hS3 k_sz_122_2 rfl rfl rfl rfl rfl rfl rfl (Nat.le_of_ble_eq_true rfl) rfl rfl) ?_
  rintro _ w_3 ⟨rfl, hS4⟩
  have hS4 : ST w0 [] _ [⟨some ⟨b, 0, none⟩, 29, [.int .i64 p.Phase, .int .i64 p.X, .int .i64 p.Z], 3⟩, ⟨some ⟨b1, 0, none⟩, 26, [.int .i64 0, .int .i64 0, .slice none 0 0], 3⟩, ⟨some ⟨b2, 0, none⟩, 122, [.int .i64 n, .slice none 0 0], 2⟩] [] := hS4
  refine rw_nil ?_
  refine cw_seq ?_
  refine cw_seq ?_
  refine cw_region ?_
  refine sq 6 rfl rfl (Y_assign (v := .int .i64 0) rfl rfl) ?_
  refine rw_nil ?_
  obtain ⟨hN, hF⟩ := chk_inv hF
  obtain ⟨z, hz, hF1⟩ := bind_inv hF
  have hS6 := hS4.addNil 124
  refine cw_block ?_
  refine cw_loop (fun k f w => ∃ (k_ : Nat) (Gates : List TGate) (B1 : Option Addr) (c1 : Nat), FF f [(0, .int .i64 n), (3, pt (some ⟨b, 0, none⟩) 0), (4, pt (some ⟨b1, 0, none⟩) 0), (5, pt (some ⟨b2, 0, none⟩) 0), (6, .int .i64 (k_ : Int))] ∧ ST w0 [] w [⟨some ⟨b, 0, none⟩, 29, [.int .i64 p.Phase, .int .i64 p.X, .int .i64 p.Z], 3⟩, ⟨some ⟨b1, 0, none⟩, 26, [.int .i64 0, .int .i64 0, .slice none 0 0], 3⟩, ⟨some ⟨b2, 0, none⟩, 122, [.int .i64 n, .slice B1 Gates.length c1], 2⟩, ⟨B1, 124, (Gates.flatMap enc_Gate), c1 * 3⟩] [] ∧ k_ + k = (IntKind.i64.wrap (2 * p.Phase)).toNat ∧ forN F_spec_l7Op_l1 k k_ Gates = some z) ((IntKind.i64.wrap (2 * p.Phase)).toNat) ⟨0, [], none, 0, (FF.cons rfl (FF.cons rfl (FF.cons rfl (FF.cons rfl (FF.cons rfl FF.nil))))), (hS6.sel [0, 1, 2, 3] rfl rfl), Nat.zero_add _, hz⟩ ?_
  rintro k_1 f w ⟨k_, Gates, B1, c1, hf, hS5, hik, hL⟩
  refine cw_seq ?_
  refine cw_seq ?_
  refine cw_region ?_
  refine sq 11 rfl rfl (Y_move (v := .int .i64 (k_ : Int)) rfl (hf.get 6 4 rfl)) ?_
  refine sq 12 rfl rfl (Y_fieldAddr (B := some ⟨b, 0, none⟩) (i := 0) (s := 0) k_fd_29_0_0_3 k_sz_3_1 rfl (hf.get 3 1 rfl)) ?_
  refine sq 13 rfl rfl (Y_load1 (B := some ⟨b, 0, none⟩) (i := 0) (cs := [.int .i64 p.Phase, .int .i64 p.X, .int .i64 p.Z]) (v := .int .i64 p.Phase) k_sc_3 rfl rfl (hS5.cf (i := 0) rfl) rfl) ?_
  refine sq 14 rfl rfl (Y_mul (k := .i64) (a := 2) (b := p.Phase) rfl rfl rfl) ?_
  refine sq 15 rfl rfl (Y_lt (k := .i64) (a := (k_ : Int)) (b := (IntKind.i64.wrap (2 * p.Phase))) rfl rfl rfl) ?_
  refine rw_nil ?_
  refine cw_cond (b := (decide ((k_ : Int) < (IntKind.i64.wrap (2 * p.Phase))))) rfl (fun hlt => ?_) (fun hlt => ?_)
  · skip
    have hlt1 : k_ < (IntKind.i64.wrap (2 * p.Phase)).toNat := by have h := of_decide_eq_true hlt; omega
    obtain ⟨k_2, rfl⟩ : ∃ k2, k_1 = k2 + 1 := ⟨k_1 - 1, by omega⟩
    obtain ⟨y, hb, hL1⟩ := forN_go hL
    unfold F_spec_l7Op_l1 at hb
    refine cw_skip ?_
    refine cw_seq ?_
    refine cw_block ?_
    refine cw_region ?_
    refine sq 18 rfl rfl (Y_fieldAddr (B := some ⟨b2, 0, none⟩) (i := 0) (s := 0) k_fd_122_1_1_120 k_sz_120_1 rfl (hf.get 5 3 rfl)) ?_
    refine sq 19 rfl rfl (Y_load1 (B := some ⟨b2, 0, none⟩) (i := 1) (cs := [.int .i64 n, .slice B1 Gates.length c1]) (v := .slice B1 Gates.length c1) k_sc_120 rfl rfl (hS5.cf (i := 2) rfl) rfl) ?_
    refine sq 20 rfl rfl (Y_buildS (zs := [.int .i64 0, .int .i64 0, .int .i64 0]) (vs := [(0, .int .i64 12)]) (cs := [.int .i64 12, .int .i64 0, .int .i64 0]) k_pl_124 k_zero_124 rfl (mpc rfl mpn) rfl) ?_
    refine ss 21 rfl rfl (Ys_bslice (s := 3) (len := 1) (vs := [(0, .agg #[.int .i64 12, .int .i64 0, .int .i64 0])]) (cs := [.int .i64 12, .int .i64 0, .int .i64 0]) (zs := [.int .i64 0, .int .i64 0, .int .i64 0]) (m := 3) hS5 k_sl_120_124 k_sz_124_3 k_zc_124 rfl (mpc rfl mpn) rfl rfl rfl (by kernel_rfl) (by kernel_rfl) rfl) ?_
    rintro _ w_4 ⟨b3, rfl, hS7⟩
    have hS7 : ST w0 [] _ [⟨some ⟨b, 0, none⟩, 29, [.int .i64 p.Phase, .int .i64 p.X, .int .i64 p.Z], 3⟩, ⟨some ⟨b1, 0, none⟩, 26, [.int .i64 0, .int .i64 0, .slice none 0 0], 3⟩, ⟨some ⟨b2, 0, none⟩, 122, [.int .i64 n, .slice B1 Gates.length c1], 2⟩, ⟨B1, 124, (Gates.flatMap enc_Gate), c1 * 3⟩, ⟨some ⟨b3, 0, none⟩, 124, ([(TGate.mk 12 0 0)].flatMap enc_Gate), 1 * 3⟩] [] := hS7
    obtain ⟨hap, hb⟩ := chk_inv hb
    refine ss 22 rfl rfl (Ys_append (s := 3) (by' := 24) (i := 3) (nn := Gates.length) (c := c1) (k := 1) (len := (Gates ++ [(TGate.mk 12 0 0)]).length) (B := B1) (xs := ([(TGate.mk 12 0 0)].flatMap enc_Gate)) (cs' := ((Gates ++ [(TGate.mk 12 0 0)]).flatMap enc_Gate)) hS7 k_sl_120_124 k_sz_124_3 k_by_124_24 k_zero_124 rfl (by decide) rfl rfl rfl rfl (fm_lenn (l := Gates) enc_Gate_len rfl) rfl (hS7.cf (i := 4) rfl) (fm_lenn (l := [(TGate.mk 12 0 0)]) enc_Gate_len rfl) (fm_one' (enc := enc_Gate) enc_Gate_one [(TGate.mk 12 0 0)]) (by have := hap; omega) (by have := hap; simp only [maxLen]; omega) (fm_app _ _) (app_len (l := Gates) (l' := [(TGate.mk 12 0 0)]) rfl rfl)) ?_
    rintro _ w_5 ⟨B2, c2, rfl, hS8⟩
    have hS8 : ST w0 [] _ [⟨some ⟨b, 0, none⟩, 29, [.int .i64 p.Phase, .int .i64 p.X, .int .i64 p.Z], 3⟩, ⟨some ⟨b1, 0, none⟩, 26, [.int .i64 0, .int .i64 0, .slice none 0 0], 3⟩, ⟨some ⟨b2, 0, none⟩, 122, [.int .i64 n, .slice B1 Gates.length c1], 2⟩, ⟨B2, 124, ((Gates ++ [(TGate.mk 12 0 0)]).flatMap enc_Gate), c2 * 3⟩, ⟨some ⟨b3, 0, none⟩, 124, ([(TGate.mk 12 0 0)].flatMap enc_Gate), 1 * 3⟩] [] := hS8
    refine sq 23 rfl rfl (Y_fieldAddr (B := some ⟨b2, 0, none⟩) (i := 0) (s := 0) k_fd_122_1_1_120 k_sz_120_1 rfl (hf.get 5 3 rfl)) ?_
    refine ss0 rfl rfl (Ys_store (i := 2) (s := 1) (B := some ⟨b2, 0, none⟩) (T' := 122) (v := .slice B2 ((Gates ++ [(TGate.mk 12 0 0)]).length) c2) (vs := [.slice B2 ((Gates ++ [(TGate.mk 12 0 0)]).length) c2]) (k := 1) (cs' := [.int .i64 n, .slice B2 ((Gates ++ [(TGate.mk 12 0 0)]).length) c2]) hS8 k_sz_120_1 rfl rfl rfl rfl rfl rfl rfl (Nat.le_of_ble_eq_true rfl) rfl rfl) ?_
    rintro _ w_6 ⟨rfl, hS9⟩
    have hS9 : ST w0 [] _ [⟨some ⟨b, 0, none⟩, 29, [.int .i64 p.Phase, .int .i64 p.X, .int .i64 p.Z], 3⟩, ⟨some ⟨b1, 0, none⟩, 26, [.int .i64 0, .int .i64 0, .slice none 0 0], 3⟩, ⟨some ⟨b2, 0, none⟩, 122, [.int .i64 n, .slice B2 ((Gates ++ [(TGate.mk 12 0 0)]).length) c2], 2⟩, ⟨B2, 124, ((Gates ++ [(TGate.mk 12 0 0)]).flatMap enc_Gate), c2 * 3⟩, ⟨some ⟨b3, 0, none⟩, 124, ([(TGate.mk 12 0 0)].flatMap enc_Gate), 1 * 3⟩] [] := hS9
    refine rw_nil ?_
    refine cw_region ?_
    refine sq 16 rfl rfl (Y_move (v := .int .i64 (k_ : Int)) rfl (hf.get 6 4 rfl)) ?_
    refine sq 17 rfl rfl (Y_add (k := .i64) (a := (k_ : Int)) (b := 1) rfl rfl rfl) ?_
    refine sq 6 rfl rfl (Y_assign (v := .int .i64 (IntKind.i64.wrap ((k_ : Int) + 1))) rfl rfl) ?_
    refine rw_nil ?_
    obtain rfl := some_inj hb
    exact ⟨k_2, Nat.lt_succ_self _, k_ + 1, (Gates ++ [(TGate.mk 12 0 0)]), B2, c2, (FF.cons (hf.get 0 0 rfl) (FF.cons (hf.get 3 1 rfl) (FF.cons (hf.get 4 2 rfl) (FF.cons (hf.get 5 3 rfl) (FF.cons (congrArg (Value.int .i64) (wr_succ hlt1 hN)) FF.nil))))), (hS9.sel [0, 1, 2, 3] rfl rfl), (by omega), hL1⟩
  · skip
    obtain rfl : k_1 = 0 := by have h := of_decide_eq_false hlt; omega
    refine cw_exit rfl ?_
    obtain rfl := some_inj hL
    refine cw_seq ?_
    refine cw_seq ?_
    refine cw_region ?_
    refine sq 7 rfl rfl (Y_assign (v := .int .i64 0) rfl rfl) ?_
    refine rw_nil ?_
    obtain ⟨hN1, hF1⟩ := chk_inv hF1
    obtain ⟨z1, hz1, hF2⟩ := bind_inv hF1
    refine cw_block ?_
    refine cw_loop (fun k f w => ∃ (q : Nat) (Gates1 : List TGate) (B3 : Option Addr) (c3 : Nat), FF f [(0, .int .i64 n), (3, pt (some ⟨b, 0, none⟩) 0), (4, pt (some ⟨b1, 0, none⟩) 0), (5, pt (some ⟨b2, 0, none⟩) 0), (7, .int .i64 (q : Int))] ∧ ST w0 [] w [⟨some ⟨b, 0, none⟩, 29, [.int .i64 p.Phase, .int .i64 p.X, .int .i64 p.Z], 3⟩, ⟨some ⟨b1, 0, none⟩, 26, [.int .i64 0, .int .i64 0, .slice none 0 0], 3⟩, ⟨some ⟨b2, 0, none⟩, 122, [.int .i64 n, .slice B3 Gates1.length c3], 2⟩, ⟨B3, 124, (Gates1.flatMap enc_Gate), c3 * 3⟩] [] ∧ q + k = n.toNat ∧ forN (F_spec_l7Op_l2 p) k q Gates1 = some z1) n.toNat ⟨0, Gates, B1, c1, (FF.cons (hf.get 0 0 rfl) (FF.cons (hf.get 3 1 rfl) (FF.cons (hf.get 4 2 rfl) (FF.cons (hf.get 5 3 rfl) (FF.cons rfl FF.nil))))), (hS5.sel [0, 1, 2, 3] rfl rfl), Nat.zero_add _, hz1⟩ ?_
    rintro k_3 f w ⟨q, Gates1, B3, c3, hf1, hS10, hik1, hL2⟩
    refine cw_seq ?_
    refine cw_seq ?_
    refine cw_region ?_
    refine sq 24 rfl rfl (Y_move (v := .int .i64 (q : Int)) rfl (hf1.get 7 4 rfl)) ?_
    refine sq 25 rfl rfl (Y_move (v := .int .i64 n) rfl (hf1.get 0 0 rfl)) ?_
    refine sq 26 rfl rfl (Y_lt (k := .i64) (a := (q : Int)) (b := n) rfl rfl rfl) ?_
    refine rw_nil ?_
    refine cw_cond (b := (decide ((q : Int) < n))) rfl (fun hlt2 => ?_) (fun hlt2 => ?_)
    · skip
      have hlt3 : q < n.toNat := by have h := of_decide_eq_true hlt2; omega
      obtain ⟨k_4, rfl⟩ : ∃ k2, k_3 = k2 + 1 := ⟨k_3 - 1, by omega⟩
      obtain ⟨y1, hb1, hL3⟩ := forN_go hL2
      unfold F_spec_l7Op_l2 at hb1
      refine cw_skip ?_
      refine cw_seq ?_
      obtain ⟨z2, hz2, hF3⟩ := bind_inv hb1
      refine cw_mid (fun f w => ∃ (Gates2 : List TGate) (B4 : Option Addr) (c4 : Nat), Gates2 = z2 ∧ FF f [(0, .int .i64 n), (3, pt (some ⟨b, 0, none⟩) 0), (4, pt (some ⟨b1, 0, none⟩) 0), (5, pt (some ⟨b2, 0, none⟩) 0), (7, .int .i64 (q : Int))] ∧ ST w0 [] w [⟨some ⟨b, 0, none⟩, 29, [.int .i64 p.Phase, .int .i64 p.X, .int .i64 p.Z], 3⟩, ⟨some ⟨b1, 0, none⟩, 26, [.int .i64 0, .int .i64 0, .slice none 0 0], 3⟩, ⟨some ⟨b2, 0, none⟩, 122, [.int .i64 n, .slice B4 Gates2.length c4], 2⟩, ⟨B4, 124, (Gates2.flatMap enc_Gate), c4 * 3⟩] []) ?_ ?_
      · skip
        refine cw_block ?_
        refine cw_seq ?_
        refine cw_region ?_
        refine ss 29 rfl rfl (Ys_bslice (s := 1) (len := 4) (vs := [(0, .int .i64 0), (1, .int .i64 2), (2, .int .i64 4), (3, .int .i64 3)]) (cs := [.int .i64 0, .int .i64 2, .int .i64 4, .int .i64 3]) (zs := [.int .i64 0, .int .i64 0, .int .i64 0, .int .i64 0]) (m := 4) hS10 k_sl_48_3 k_sz_3_1 k_zc_3 rfl (mpc rfl (mpc rfl (mpc rfl (mpc rfl mpn)))) rfl rfl rfl (by kernel_rfl) (by kernel_rfl) rfl) ?_
        rintro _ w_7 ⟨b4, rfl, hS12⟩
        have hS12 : ST w0 [] _ [⟨some ⟨b, 0, none⟩, 29, [.int .i64 p.Phase, .int .i64 p.X, .int .i64 p.Z], 3⟩, ⟨some ⟨b1, 0, none⟩, 26, [.int .i64 0, .int .i64 0, .slice none 0 0], 3⟩, ⟨some ⟨b2, 0, none⟩, 122, [.int .i64 n, .slice B3 Gates1.length c3], 2⟩, ⟨B3, 124, (Gates1.flatMap enc_Gate), c3 * 3⟩, ⟨some ⟨b4, 0, none⟩, 3, ([0, 2, 4, 3].flatMap encI), 4 * 1⟩] [] := hS12
        refine sq 30 rfl rfl (Y_loadA (B := some ⟨b, 0, none⟩) (i := 0) (cs := [.int .i64 p.Phase, .int .i64 p.X, .int .i64 p.Z]) (vs := [.int .i64 p.Phase, .int .i64 p.X, .int .i64 p.Z]) k_ag_29 k_sz_29_3 rfl (hf1.get 3 1 rfl) (hS12.cf (i := 0) rfl) rfl rfl) ?_
        refine sq 31 rfl rfl (Y_move (v := .int .i64 (q : Int)) rfl (hf1.get 7 4 rfl)) ?_
        obtain ⟨r_1, hc, hz2⟩ := bind_inv hz2
        refine sc 32 rfl rfl (Yc_func (g := 97) (vs := [.agg #[.int .i64 p.Phase, .int .i64 p.X, .int .i64 p.Z], .int .i64 (q : Int)]) k_call_97 rfl (mc rfl (mc rfl mn)) (c_spec_l7Letter p (q : Int) _  (hS12.inn0 [] rfl) hc)) ?_
        rintro _ w_8 ⟨rfl, hd⟩
        have hS13 := hS12.out00 hd
        have hS13 : ST w0 [] _ [⟨some ⟨b, 0, none⟩, 29, [.int .i64 p.Phase, .int .i64 p.X, .int .i64 p.Z], 3⟩, ⟨some ⟨b1, 0, none⟩, 26, [.int .i64 0, .int .i64 0, .slice none 0 0], 3⟩, ⟨some ⟨b2, 0, none⟩, 122, [.int .i64 n, .slice B3 Gates1.length c3], 2⟩, ⟨B3, 124, (Gates1.flatMap enc_Gate), c3 * 3⟩, ⟨some ⟨b4, 0, none⟩, 3, ([0, 2, 4, 3].flatMap encI), 4 * 1⟩] [] := hS13
        obtain ⟨x, hx, hz2⟩ := bind_inv hz2
        refine sq 33 rfl rfl (Y_index (B := some ⟨b4, 0, none⟩) (m := 4) (c := 4) (k := .i64) (i := r_1) k_sl_48_3 k_sz_3_1 rfl rfl rfl (gi_isSome encI_len rfl (hS13.cf (i := 4) rfl) hx) (getI_nn hx) (getI_ltI hx rfl)) ?_
        refine sq 34 rfl rfl (Y_load1 (B := some ⟨b4, 0, none⟩) (i := r_1.toNat * 1) (cs := ([0, 2, 4, 3].flatMap encI)) (v := .int .i64 x) k_sc_3 rfl rfl (hS13.cf (i := 4) rfl) (gi_at0 encI_len hx rfl)) ?_
        refine sq 8 rfl rfl (Y_assign (v := .int .i64 x) rfl rfl) ?_
        refine rw_nil ?_
        refine cw_seq ?_
        refine cw_region ?_
        refine sq 35 rfl rfl (Y_move (v := .int .i64 x) rfl rfl) ?_
        refine sq 36 rfl rfl (Y_gt (k := .i64) (a := x) (b := 0) rfl rfl rfl) ?_
        refine rw_nil ?_
        refine cw_cond (b := (decide (0 < x))) rfl (fun hb2 => ?_) (fun hb2 => ?_)
        · skip
          have hF4 := ct hz2 hb2
          refine cw_region ?_
          refine sq 37 rfl rfl (Y_fieldAddr (B := some ⟨b2, 0, none⟩) (i := 0) (s := 0) k_fd_122_1_1_120 k_sz_120_1 rfl (hf1.get 5 3 rfl)) ?_
          refine sq 38 rfl rfl (Y_load1 (B := some ⟨b2, 0, none⟩) (i := 1) (cs := [.int .i64 n, .slice B3 Gates1.length c3]) (v := .slice B3 Gates1.length c3) k_sc_120 rfl rfl (hS13.cf (i := 2) rfl) rfl) ?_
          refine sq 39 rfl rfl (Y_move (v := .int .i64 x) rfl rfl) ?_
          refine sq 40 rfl rfl (Y_move (v := .int .i64 (q : Int)) rfl (hf1.get 7 4 rfl)) ?_
          refine sq 41 rfl rfl (Y_buildS (zs := [.int .i64 0, .int .i64 0, .int .i64 0]) (vs := [(0, .int .i64 x), (1, .int .i64 (q : Int))]) (cs := [.int .i64 x, .int .i64 (q : Int), .int .i64 0]) k_pl_124 k_zero_124 rfl (mpc rfl (mpc rfl mpn)) rfl) ?_
          refine ss 42 rfl rfl (Ys_bslice (s := 3) (len := 1) (vs := [(0, .agg #[.int .i64 x, .int .i64 (q : Int), .int .i64 0])]) (cs := [.int .i64 x, .int .i64 (q : Int), .int .i64 0]) (zs := [.int .i64 0, .int .i64 0, .int .i64 0]) (m := 3) hS13 k_sl_120_124 k_sz_124_3 k_zc_124 rfl (mpc rfl mpn) rfl rfl rfl (by kernel_rfl) (by kernel_rfl) rfl) ?_
          rintro _ w_9 ⟨b5, rfl, hS14⟩
          have hS14 : ST w0 [] _ [⟨some ⟨b, 0, none⟩, 29, [.int .i64 p.Phase, .int .i64 p.X, .int .i64 p.Z], 3⟩, ⟨some ⟨b1, 0, none⟩, 26, [.int .i64 0, .int .i64 0, .slice none 0 0], 3⟩, ⟨some ⟨b2, 0, none⟩, 122, [.int .i64 n, .slice B3 Gates1.length c3], 2⟩, ⟨B3, 124, (Gates1.flatMap enc_Gate), c3 * 3⟩, ⟨some ⟨b4, 0, none⟩, 3, ([0, 2, 4, 3].flatMap encI), 4 * 1⟩, ⟨some ⟨b5, 0, none⟩, 124, ([(TGate.mk x (q : Int) 0)].flatMap enc_Gate), 1 * 3⟩] [] := hS14
          obtain ⟨hap1, hF4⟩ := chk_inv hF4
          refine ss 43 rfl rfl (Ys_append (s := 3) (by' := 24) (i := 3) (nn := Gates1.length) (c := c3) (k := 1) (len := (Gates1 ++ [(TGate.mk x (q : Int) 0)]).length) (B := B3) (xs := ([(TGate.mk x (q : Int) 0)].flatMap enc_Gate)) (cs' := ((Gates1 ++ [(TGate.mk x (q : Int) 0)]).flatMap enc_Gate)) hS14 k_sl_120_124 k_sz_124_3 k_by_124_24 k_zero_124 rfl (by decide) rfl rfl rfl rfl (fm_lenn (l := Gates1) enc_Gate_len rfl) rfl (hS14.cf (i := 5) rfl) (fm_lenn (l := [(TGate.mk x (q : Int) 0)]) enc_Gate_len rfl) (fm_one' (enc := enc_Gate) enc_Gate_one [(TGate.mk x (q : Int) 0)]) (by have := hap1; omega) (by have := hap1; simp only [maxLen]; omega) (fm_app _ _) (app_len (l := Gates1) (l' := [(TGate.mk x (q : Int) 0)]) rfl rfl)) ?_
          rintro _ w_10 ⟨B5, c5, rfl, hS15⟩
          have hS15 : ST w0 [] _ [⟨some ⟨b, 0, none⟩, 29, [.int .i64 p.Phase, .int .i64 p.X, .int .i64 p.Z], 3⟩, ⟨some ⟨b1, 0, none⟩, 26, [.int .i64 0, .int .i64 0, .slice none 0 0], 3⟩, ⟨some ⟨b2, 0, none⟩, 122, [.int .i64 n, .slice B3 Gates1.length c3], 2⟩, ⟨B5, 124, ((Gates1 ++ [(TGate.mk x (q : Int) 0)]).flatMap enc_Gate), c5 * 3⟩, ⟨some ⟨b4, 0, none⟩, 3, ([0, 2, 4, 3].flatMap encI), 4 * 1⟩, ⟨some ⟨b5, 0, none⟩, 124, ([(TGate.mk x (q : Int) 0)].flatMap enc_Gate), 1 * 3⟩] [] := hS15
          refine sq 44 rfl rfl (Y_fieldAddr (B := some ⟨b2, 0, none⟩) (i := 0) (s := 0) k_fd_122_1_1_120 k_sz_120_1 rfl (hf1.get 5 3 rfl)) ?_
          refine ss0 rfl rfl (Ys_store (i := 2) (s := 1) (B := some ⟨b2, 0, none⟩) (T' := 122) (v := .slice B5 ((Gates1 ++ [(TGate.mk x (q : Int) 0)]).length) c5) (vs := [.slice B5 ((Gates1 ++ [(TGate.mk x (q : Int) 0)]).length) c5]) (k := 1) (cs' := [.int .i64 n, .slice B5 ((Gates1 ++ [(TGate.mk x (q : Int) 0)]).length) c5]) hS15 k_sz_120_1 rfl rfl rfl rfl rfl rfl rfl (Nat.le_of_ble_eq_true rfl) rfl rfl) ?_
          rintro _ w_11 ⟨rfl, hS16⟩
          have hS16 : ST w0 [] _ [⟨some ⟨b, 0, none⟩, 29, [.int .i64 p.Phase, .int .i64 p.X, .int .i64 p.Z], 3⟩, ⟨some ⟨b1, 0, none⟩, 26, [.int .i64 0, .int .i64 0, .slice none 0 0], 3⟩, ⟨some ⟨b2, 0, none⟩, 122, [.int .i64 n, .slice B5 ((Gates1 ++ [(TGate.mk x (q : Int) 0)]).length) c5], 2⟩, ⟨B5, 124, ((Gates1 ++ [(TGate.mk x (q : Int) 0)]).flatMap enc_Gate), c5 * 3⟩, ⟨some ⟨b4, 0, none⟩, 3, ([0, 2, 4, 3].flatMap encI), 4 * 1⟩, ⟨some ⟨b5, 0, none⟩, 124, ([(TGate.mk x (q : Int) 0)].flatMap enc_Gate), 1 * 3⟩] [] := hS16
          refine rw_nil ?_
          exact ⟨(Gates1 ++ [(TGate.mk x (q : Int) 0)]), B5, c5, (some_inj hF4), (FF.cons (hf1.get 0 0 rfl) (FF.cons (hf1.get 3 1 rfl) (FF.cons (hf1.get 4 2 rfl) (FF.cons (hf1.get 5 3 rfl) (FF.cons (hf1.get 7 4 rfl) FF.nil))))), (hS16.sel [0, 1, 2, 3] rfl rfl)⟩
        · skip
          have hF5 := cf' hz2 hb2
          refine cw_skip ?_
          exact ⟨Gates1, B3, c3, (some_inj hF5), (FF.cons (hf1.get 0 0 rfl) (FF.cons (hf1.get 3 1 rfl) (FF.cons (hf1.get 4 2 rfl) (FF.cons (hf1.get 5 3 rfl) (FF.cons (hf1.get 7 4 rfl) FF.nil))))), (hS13.sel [0, 1, 2, 3] rfl rfl)⟩
      rintro f w ⟨Gates2, B4, c4, rfl, hf2, hS11⟩
      refine cw_region ?_
      refine sq 27 rfl rfl (Y_move (v := .int .i64 (q : Int)) rfl (hf2.get 7 4 rfl)) ?_
      refine sq 28 rfl rfl (Y_add (k := .i64) (a := (q : Int)) (b := 1) rfl rfl rfl) ?_
      refine sq 7 rfl rfl (Y_assign (v := .int .i64 (IntKind.i64.wrap ((q : Int) + 1))) rfl rfl) ?_
      refine rw_nil ?_
      obtain rfl := some_inj hF3
      exact ⟨k_4, Nat.lt_succ_self _, q + 1, Gates2, B4, c4, (FF.cons (hf2.get 0 0 rfl) (FF.cons (hf2.get 3 1 rfl) (FF.cons (hf2.get 4 2 rfl) (FF.cons (hf2.get 5 3 rfl) (FF.cons (congrArg (Value.int .i64) (wr_succ hlt3 hN1)) FF.nil))))), (hS11.sel [0, 1, 2, 3] rfl rfl), (by omega), hL3⟩
    · skip
      obtain rfl : k_3 = 0 := by have h := of_decide_eq_false hlt2; omega
      refine cw_exit rfl ?_
      obtain rfl := some_inj hL2
      refine cw_seq ?_
      refine cw_region ?_
      refine sq 45 rfl rfl (Y_loadA (B := some ⟨b2, 0, none⟩) (i := 0) (cs := [.int .i64 n, .slice B3 Gates1.length c3]) (vs := [.int .i64 n, .slice B3 Gates1.length c3]) k_ag_122 k_sz_122_2 rfl (hf1.get 5 3 rfl) (hS10.cf (i := 2) rfl) rfl rfl) ?_
      obtain ⟨r_2, hc1, hF2⟩ := bind_inv hF2
      refine sc 46 rfl rfl (Yc_func (g := 98) (vs := [.agg #[.int .i64 n, .slice B3 Gates1.length c3]]) k_call_98 rfl (mc rfl mn) (c_spec_l6Op (TCircuit.mk n Gates1) B3 c3 Gates1.length _ rfl (hS10.inn0 [(false, 3)] rfl) hc1)) ?_
      rintro _ w_12 ⟨B6, c6, rfl, hd1⟩
      have hS17 := hS10.out0 hd1
      have hS17 : ST w0 [] _ [⟨some ⟨b, 0, none⟩, 29, [.int .i64 p.Phase, .int .i64 p.X, .int .i64 p.Z], 3⟩, ⟨some ⟨b1, 0, none⟩, 26, [.int .i64 0, .int .i64 0, .slice none 0 0], 3⟩, ⟨some ⟨b2, 0, none⟩, 122, [.int .i64 n, .slice B3 Gates1.length c3], 2⟩, ⟨B3, 124, (Gates1.flatMap enc_Gate), c3 * 3⟩, ⟨B6, 44, (r_2.Cells.flatMap enc_Dyadic), c6 * 5⟩] [] := hS17
      refine ss0 rfl rfl (Ys_store (i := 1) (s := 3) (B := some ⟨b1, 0, none⟩) (T' := 26) (v := .agg #[.int .i64 r_2.Rows, .int .i64 r_2.Cols, .slice B6 r_2.Cells.length c6]) (vs := [.int .i64 r_2.Rows, .int .i64 r_2.Cols, .slice B6 r_2.Cells.length c6]) (k := 0) (cs' := [.int .i64 r_2.Rows, .int .i64 r_2.Cols, .slice B6 r_2.Cells.length c6]) hS17 k_sz_26_3 rfl (hf1.get 4 2 rfl) rfl rfl rfl rfl rfl (Nat.le_of_ble_eq_true rfl) rfl rfl) ?_
      rintro _ w_13 ⟨rfl, hS18⟩
      have hS18 : ST w0 [] _ [⟨some ⟨b, 0, none⟩, 29, [.int .i64 p.Phase, .int .i64 p.X, .int .i64 p.Z], 3⟩, ⟨some ⟨b1, 0, none⟩, 26, [.int .i64 r_2.Rows, .int .i64 r_2.Cols, .slice B6 r_2.Cells.length c6], 3⟩, ⟨some ⟨b2, 0, none⟩, 122, [.int .i64 n, .slice B3 Gates1.length c3], 2⟩, ⟨B3, 124, (Gates1.flatMap enc_Gate), c3 * 3⟩, ⟨B6, 44, (r_2.Cells.flatMap enc_Dyadic), c6 * 5⟩] [] := hS18
      refine rw_nil ?_
      refine cw_ret ?_
      obtain rfl := some_inj hF2
      exact ret1 Try.results41 (v1 := .agg #[.int .i64 r_2.Rows, .int .i64 r_2.Cols, .slice B6 r_2.Cells.length c6]) (resAt_cellA (B := some ⟨b1, 0, none⟩) (i := 0) (cs := [.int .i64 r_2.Rows, .int .i64 r_2.Cols, .slice B6 r_2.Cells.length c6]) (vs := [.int .i64 r_2.Rows, .int .i64 r_2.Cols, .slice B6 r_2.Cells.length c6]) (hf1.get 4 2 rfl) k_ag_26 k_sz_26_3 (hS18.cf (i := 1) rfl) rfl rfl) ⟨B6, c6, rfl, (ST.subR (R' := []) (hS18.sel [4] rfl rfl) (fun _ h => by cases h))⟩

theorem c_spec_PauliMatrix (n : Int) (p : TPauli)  (w0 : World)  (hS : ST w0 [] w0 [] []) {r_ : TMatrix} {r_1 : Bool} (hF : F_spec_PauliMatrix n p = some (r_, r_1)) :
    CV Try.prog 7 #[.int .i64 n, .agg #[.int .i64 p.Phase, .int .i64 p.X, .int .i64 p.Z]] w0 (fun v w' => ∃ (B : Option Addr) (c : Nat), v = .tuple #[.agg #[.int .i64 r_.Rows, .int .i64 r_.Cols, .slice B r_.Cells.length c], .bool r_1] ∧ ST w0 [] w' [⟨B, 44, (r_.Cells.flatMap enc_Dyadic), c * 5⟩] []) := by
  unfold F_spec_PauliMatrix at hF
  refine cv_of_cw 14 Try.func7 rfl Try.ntmps7 rfl ?_
  refine cw_seq ?_
  refine cw_region ?_
  refine ss 3 rfl rfl (Ys_box (T := 29) (v := .agg #[.int .i64 p.Phase, .int .i64 p.X, .int .i64 p.Z]) (cs := [.int .i64 p.Phase, .int .i64 p.X, .int .i64 p.Z]) (m := 3) hS rfl rfl rfl rfl) ?_
  rintro _ w_ ⟨b, rfl, hS1⟩
  refine ss 4 rfl rfl (Ys_alloc (T := 26) (cs := [.int .i64 0, .int .i64 0, .slice none 0 0]) (m := 3) hS1 k_zero_26 rfl rfl rfl) ?_
  rintro _ w_1 ⟨b1, rfl, hS2⟩
  have hS2 : ST w0 [] _ [⟨some ⟨b, 0, none⟩, 29, [.int .i64 p.Phase, .int .i64 p.X, .int .i64 p.Z], 3⟩, ⟨some ⟨b1, 0, none⟩, 26, [.int .i64 0, .int .i64 0, .slice none 0 0], 3⟩] [] := hS2
  refine sq 5 rfl rfl (Y_assign (v := .bool false) rfl rfl) ?_
  refine rw_nil ?_
  refine cw_seq ?_
  refine cw_seq ?_
  refine cw_region ?_
  refine sq 6 rfl rfl (Y_move (v := .int .i64 n) rfl rfl) ?_
  refine sq 7 rfl rfl (Y_loadA (B := some ⟨b, 0, none⟩) (i := 0) (cs := [.int .i64 p.Phase, .int .i64 p.X, .int .i64 p.Z]) (vs := [.int .i64 p.Phase, .int .i64 p.X, .int .i64 p.Z]) k_ag_29 k_sz_29_3 rfl rfl (hS2.cf (i := 0) rfl) rfl rfl) ?_
  obtain ⟨r_2, hc, hF⟩ := bind_inv hF
  refine sc 8 rfl rfl (Yc_func (g := 40) (vs := [.int .i64 n, .agg #[.int .i64 p.Phase, .int .i64 p.X, .int .i64 p.Z]]) k_call_40 rfl (mc rfl (mc rfl mn)) (c_spec_l7Valid n p _  (hS2.inn0 [] rfl) hc)) ?_
  rintro _ w_2 ⟨rfl, hd⟩
  have hS3 := hS2.out00 hd
  have hS3 : ST w0 [] _ [⟨some ⟨b, 0, none⟩, 29, [.int .i64 p.Phase, .int .i64 p.X, .int .i64 p.Z], 3⟩, ⟨some ⟨b1, 0, none⟩, 26, [.int .i64 0, .int .i64 0, .slice none 0 0], 3⟩] [] := hS3
  refine sq 9 rfl rfl (Y_not (p := r_2) rfl rfl) ?_
  refine rw_nil ?_
  refine cw_cond (b := (!r_2)) rfl (fun hb => ?_) (fun hb => ?_)
  · skip
    have hF1 := ct hF hb
    refine cw_seq ?_
    refine cw_region ?_
    refine sq 10 rfl rfl (Y_buildS (zs := [.int .i64 0, .int .i64 0, .slice none 0 0]) (vs := []) (cs := [.int .i64 0, .int .i64 0, .slice none 0 0]) k_pl_26 k_zero_26 rfl mpn rfl) ?_
    refine ss0 rfl rfl (Ys_store (i := 1) (s := 3) (B := some ⟨b1, 0, none⟩) (T' := 26) (v := .agg #[.int .i64 0, .int .i64 0, .slice none 0 0]) (vs := [.int .i64 0, .int .i64 0, .slice none 0 0]) (k := 0) (cs' := [.int .i64 0, .int .i64 0, .slice none 0 0]) hS3 k_sz_26_3 rfl rfl rfl rfl rfl rfl rfl (Nat.le_of_ble_eq_true rfl) rfl rfl) ?_
    rintro _ w_3 ⟨rfl, hS4⟩
    have hS4 : ST w0 [] _ [⟨some ⟨b, 0, none⟩, 29, [.int .i64 p.Phase, .int .i64 p.X, .int .i64 p.Z], 3⟩, ⟨some ⟨b1, 0, none⟩, 26, [.int .i64 0, .int .i64 0, .slice none 0 0], 3⟩] [] := hS4
    refine sq 5 rfl rfl (Y_assign (v := .bool false) rfl rfl) ?_
    refine rw_nil ?_
    refine cw_ret ?_
    have hS5 := hS4.addNil 44
    obtain ⟨rfl, rfl⟩ := pr2 (some_inj hF1)
    exact ret2 Try.results7 (v1 := .agg #[.int .i64 0, .int .i64 0, .slice none 0 0]) (resAt_cellA (B := some ⟨b1, 0, none⟩) (i := 0) (cs := [.int .i64 0, .int .i64 0, .slice none 0 0]) (vs := [.int .i64 0, .int .i64 0, .slice none 0 0]) rfl k_ag_26 k_sz_26_3 (hS5.cf (i := 1) rfl) rfl rfl) (v2 := .bool false) (resAt_tmp rfl) ⟨none, 0, rfl, (ST.subR (R' := []) (hS5.sel [2] rfl rfl) (fun _ h => by cases h))⟩
  · skip
    have hF2 := cf' hF hb
    refine cw_skip ?_
    refine cw_seq ?_
    refine cw_region ?_
    refine sq 11 rfl rfl (Y_move (v := .int .i64 n) rfl rfl) ?_
    refine sq 12 rfl rfl (Y_loadA (B := some ⟨b, 0, none⟩) (i := 0) (cs := [.int .i64 p.Phase, .int .i64 p.X, .int .i64 p.Z]) (vs := [.int .i64 p.Phase, .int .i64 p.X, .int .i64 p.Z]) k_ag_29 k_sz_29_3 rfl rfl (hS3.cf (i := 0) rfl) rfl rfl) ?_
    obtain ⟨r_3, hc1, hF2⟩ := bind_inv hF2
    refine sc 13 rfl rfl (Yc_func (g := 41) (vs := [.int .i64 n, .agg #[.int .i64 p.Phase, .int .i64 p.X, .int .i64 p.Z]]) k_call_41 rfl (mc rfl (mc rfl mn)) (c_spec_l7Op n p _  (hS3.inn0 [] rfl) hc1)) ?_
    rintro _ w_4 ⟨B1, c1, rfl, hd1⟩
    have hS6 := hS3.out0 hd1
    have hS6 : ST w0 [] _ [⟨some ⟨b, 0, none⟩, 29, [.int .i64 p.Phase, .int .i64 p.X, .int .i64 p.Z], 3⟩, ⟨some ⟨b1, 0, none⟩, 26, [.int .i64 0, .int .i64 0, .slice none 0 0], 3⟩, ⟨B1, 44, (r_3.Cells.flatMap enc_Dyadic), c1 * 5⟩] [] := hS6
    refine ss0 rfl rfl (Ys_store (i := 1) (s := 3) (B := some ⟨b1, 0, none⟩) (T' := 26) (v := .agg #[.int .i64 r_3.Rows, .int .i64 r_3.Cols, .slice B1 r_3.Cells.length c1]) (vs := [.int .i64 r_3.Rows, .int .i64 r_3.Cols, .slice B1 r_3.Cells.length c1]) (k := 0) (cs' := [.int .i64 r_3.Rows, .int .i64 r_3.Cols, .slice B1 r_3.Cells.length c1]) hS6 k_sz_26_3 rfl rfl rfl rfl rfl rfl rfl (Nat.le_of_ble_eq_true rfl) rfl rfl) ?_
    rintro _ w_5 ⟨rfl, hS7⟩
    have hS7 : ST w0 [] _ [⟨some ⟨b, 0, none⟩, 29, [.int .i64 p.Phase, .int .i64 p.X, .int .i64 p.Z], 3⟩, ⟨some ⟨b1, 0, none⟩, 26, [.int .i64 r_3.Rows, .int .i64 r_3.Cols, .slice B1 r_3.Cells.length c1], 3⟩, ⟨B1, 44, (r_3.Cells.flatMap enc_Dyadic), c1 * 5⟩] [] := hS7
    refine sq 5 rfl rfl (Y_assign (v := .bool true) rfl rfl) ?_
    refine rw_nil ?_
    refine cw_ret ?_
    obtain ⟨rfl, rfl⟩ := pr2 (some_inj hF2)
    exact ret2 Try.results7 (v1 := .agg #[.int .i64 r_3.Rows, .int .i64 r_3.Cols, .slice B1 r_3.Cells.length c1]) (resAt_cellA (B := some ⟨b1, 0, none⟩) (i := 0) (cs := [.int .i64 r_3.Rows, .int .i64 r_3.Cols, .slice B1 r_3.Cells.length c1]) (vs := [.int .i64 r_3.Rows, .int .i64 r_3.Cols, .slice B1 r_3.Cells.length c1]) rfl k_ag_26 k_sz_26_3 (hS7.cf (i := 1) rfl) rfl rfl) (v2 := .bool true) (resAt_tmp rfl) ⟨B1, c1, rfl, (ST.subR (R' := []) (hS7.sel [2] rfl rfl) (fun _ h => by cases h))⟩

theorem c_laws_toPauli (a : TPauli)  (w0 : World)  (hS : ST w0 [] w0 [] []) {r_ : TPauli} (hF : F_laws_toPauli a = some r_) :
    CV Try.prog 8 #[.agg #[.int .i64 a.Phase, .int .i64 a.X, .int .i64 a.Z]] w0 (fun v w' => v = .agg #[.int .i64 r_.Phase, .int .i64 r_.X, .int .i64 r_.Z] ∧ ST w0 [] w' [] []) := by
  unfold F_laws_toPauli at hF
  refine cv_of_cw 14 Try.func8 rfl Try.ntmps8 rfl ?_
  refine cw_seq ?_
  refine cw_region ?_
  refine ss 1 rfl rfl (Ys_box (T := 23) (v := .agg #[.int .i64 a.Phase, .int .i64 a.X, .int .i64 a.Z]) (cs := [.int .i64 a.Phase, .int .i64 a.X, .int .i64 a.Z]) (m := 3) hS rfl rfl rfl rfl) ?_
  rintro _ w_ ⟨b, rfl, hS1⟩
  refine ss 2 rfl rfl (Ys_alloc (T := 29) (cs := [.int .i64 0, .int .i64 0, .int .i64 0]) (m := 3) hS1 k_zero_29 rfl rfl rfl) ?_
  rintro _ w_1 ⟨b1, rfl, hS2⟩
  have hS2 : ST w0 [] _ [⟨some ⟨b, 0, none⟩, 23, [.int .i64 a.Phase, .int .i64 a.X, .int .i64 a.Z], 3⟩, ⟨some ⟨b1, 0, none⟩, 29, [.int .i64 0, .int .i64 0, .int .i64 0], 3⟩] [] := hS2
  refine rw_nil ?_
  refine cw_seq ?_
  refine cw_region ?_
  refine ss 3 rfl rfl (Ys_alloc (T := 29) (cs := [.int .i64 0, .int .i64 0, .int .i64 0]) (m := 3) hS2 k_zero_29 rfl rfl rfl) ?_
  rintro _ w_2 ⟨b2, rfl, hS3⟩
  have hS3 : ST w0 [] _ [⟨some ⟨b, 0, none⟩, 23, [.int .i64 a.Phase, .int .i64 a.X, .int .i64 a.Z], 3⟩, ⟨some ⟨b1, 0, none⟩, 29, [.int .i64 0, .int .i64 0, .int .i64 0], 3⟩, ⟨some ⟨b2, 0, none⟩, 29, [.int .i64 0, .int .i64 0, .int .i64 0], 3⟩] [] := hS3
  refine rw_nil ?_
  refine cw_seq ?_
  refine cw_region ?_
  refine sq 4 rfl rfl (Y_fieldAddr (B := some ⟨b, 0, none⟩) (i := 0) (s := 0) k_fd_23_0_0_3 k_sz_3_1 rfl rfl) ?_
  refine sq 5 rfl rfl (Y_load1 (B := some ⟨b, 0, none⟩) (i := 0) (cs := [.int .i64 a.Phase, .int .i64 a.X, .int .i64 a.Z]) (v := .int .i64 a.Phase) k_sc_3 rfl rfl (hS3.cf (i := 0) rfl) rfl) ?_
  refine sq 6 rfl rfl (Y_fieldAddr (B := some ⟨b2, 0, none⟩) (i := 0) (s := 0) k_fd_29_0_0_3 k_sz_3_1 rfl rfl) ?_
  refine ss0 rfl rfl (Ys_store (i := 2) (s := 1) (B := some ⟨b2, 0, none⟩) (T' := 29) (v := .int .i64 a.Phase) (vs := [.int .i64 a.Phase]) (k := 0) (cs' := [.int .i64 a.Phase, .int .i64 0, .int .i64 0]) hS3 k_sz_3_1 rfl rfl rfl rfl rfl rfl rfl (Nat.le_of_ble_eq_true rfl) rfl rfl) ?_
  rintro _ w_3 ⟨rfl, hS4⟩
  have hS4 : ST w0 [] _ [⟨some ⟨b, 0, none⟩, 23, [.int .i64 a.Phase, .int .i64 a.X, .int .i64 a.Z], 3⟩, ⟨some ⟨b1, 0, none⟩, 29, [.int .i64 0, .int .i64 0, .int .i64 0], 3⟩, ⟨some ⟨b2, 0, none⟩, 29, [.int .i64 a.Phase, .int .i64 0, .int .i64 0], 3⟩] [] := hS4
  refine rw_nil ?_
  refine cw_seq ?_
  refine cw_region ?_
  refine sq 7 rfl rfl (Y_fieldAddr (B := some ⟨b, 0, none⟩) (i := 0) (s := 0) k_fd_23_1_1_3 k_sz_3_1 rfl rfl) ?_
  refine sq 8 rfl rfl (Y_load1 (B := some ⟨b, 0, none⟩) (i := 1) (cs := [.int .i64 a.Phase, .int .i64 a.X, .int .i64 a.Z]) (v := .int .i64 a.X) k_sc_3 rfl rfl (hS4.cf (i := 0) rfl) rfl) ?_
  refine sq 9 rfl rfl (Y_fieldAddr (B := some ⟨b2, 0, none⟩) (i := 0) (s := 0) k_fd_29_1_1_3 k_sz_3_1 rfl rfl) ?_
  refine ss0 rfl rfl (Ys_store (i := 2) (s := 1) (B := some ⟨b2, 0, none⟩) (T' := 29) (v := .int .i64 a.X) (vs := [.int .i64 a.X]) (k := 1) (cs' := [.int .i64 a.Phase, .int .i64 a.X, .int .i64 0]) hS4 k_sz_3_1 rfl rfl rfl rfl rfl rfl rfl (Nat.le_of_ble_eq_true rfl) rfl rfl) ?_
  rintro _ w_4 ⟨rfl, hS5⟩
  have hS5 : ST w0 [] _ [⟨some ⟨b, 0, none⟩, 23, [.int .i64 a.Phase, .int .i64 a.X, .int .i64 a.Z], 3⟩, ⟨some ⟨b1, 0, none⟩, 29, [.int .i64 0, .int .i64 0, .int .i64 0], 3⟩, ⟨some ⟨b2, 0, none⟩, 29, [.int .i64 a.Phase, .int .i64 a.X, .int .i64 0], 3⟩] [] := hS5
  refine rw_nil ?_
  refine cw_seq ?_
  refine cw_region ?_
  refine sq 10 rfl rfl (Y_fieldAddr (B := some ⟨b, 0, none⟩) (i := 0) (s := 0) k_fd_23_2_2_3 k_sz_3_1 rfl rfl) ?_
  refine sq 11 rfl rfl (Y_load1 (B := some ⟨b, 0, none⟩) (i := 2) (cs := [.int .i64 a.Phase, .int .i64 a.X, .int .i64 a.Z]) (v := .int .i64 a.Z) k_sc_3 rfl rfl (hS5.cf (i := 0) rfl) rfl) ?_
  refine sq 12 rfl rfl (Y_fieldAddr (B := some ⟨b2, 0, none⟩) (i := 0) (s := 0) k_fd_29_2_2_3 k_sz_3_1 rfl rfl) ?_
  refine ss0 rfl rfl (Ys_store (i := 2) (s := 1) (B := some ⟨b2, 0, none⟩) (T' := 29) (v := .int .i64 a.Z) (vs := [.int .i64 a.Z]) (k := 2) (cs' := [.int .i64 a.Phase, .int .i64 a.X, .int .i64 a.Z]) hS5 k_sz_3_1 rfl rfl rfl rfl rfl rfl rfl (Nat.le_of_ble_eq_true rfl) rfl rfl) ?_
  rintro _ w_5 ⟨rfl, hS6⟩
  have hS6 : ST w0 [] _ [⟨some ⟨b, 0, none⟩, 23, [.int .i64 a.Phase, .int .i64 a.X, .int .i64 a.Z], 3⟩, ⟨some ⟨b1, 0, none⟩, 29, [.int .i64 0, .int .i64 0, .int .i64 0], 3⟩, ⟨some ⟨b2, 0, none⟩, 29, [.int .i64 a.Phase, .int .i64 a.X, .int .i64 a.Z], 3⟩] [] := hS6
  refine rw_nil ?_
  refine cw_seq ?_
  refine cw_region ?_
  refine sq 13 rfl rfl (Y_loadA (B := some ⟨b2, 0, none⟩) (i := 0) (cs := [.int .i64 a.Phase, .int .i64 a.X, .int .i64 a.Z]) (vs := [.int .i64 a.Phase, .int .i64 a.X, .int .i64 a.Z]) k_ag_29 k_sz_29_3 rfl rfl (hS6.cf (i := 2) rfl) rfl rfl) ?_
  refine ss0 rfl rfl (Ys_store (i := 1) (s := 3) (B := some ⟨b1, 0, none⟩) (T' := 29) (v := .agg #[.int .i64 a.Phase, .int .i64 a.X, .int .i64 a.Z]) (vs := [.int .i64 a.Phase, .int .i64 a.X, .int .i64 a.Z]) (k := 0) (cs' := [.int .i64 a.Phase, .int .i64 a.X, .int .i64 a.Z]) hS6 k_sz_29_3 rfl rfl rfl rfl rfl rfl rfl (Nat.le_of_ble_eq_true rfl) rfl rfl) ?_
  rintro _ w_6 ⟨rfl, hS7⟩
  have hS7 : ST w0 [] _ [⟨some ⟨b, 0, none⟩, 23, [.int .i64 a.Phase, .int .i64 a.X, .int .i64 a.Z], 3⟩, ⟨some ⟨b1, 0, none⟩, 29, [.int .i64 a.Phase, .int .i64 a.X, .int .i64 a.Z], 3⟩, ⟨some ⟨b2, 0, none⟩, 29, [.int .i64 a.Phase, .int .i64 a.X, .int .i64 a.Z], 3⟩] [] := hS7
  refine rw_nil ?_
  refine cw_ret ?_
  obtain rfl := some_inj hF
  exact ret1 Try.results8 (v1 := .agg #[.int .i64 a.Phase, .int .i64 a.X, .int .i64 a.Z]) (resAt_cellA (B := some ⟨b1, 0, none⟩) (i := 0) (cs := [.int .i64 a.Phase, .int .i64 a.X, .int .i64 a.Z]) (vs := [.int .i64 a.Phase, .int .i64 a.X, .int .i64 a.Z]) rfl k_ag_29 k_sz_29_3 (hS7.cf (i := 1) rfl) rfl rfl) ⟨rfl, (ST.subR (R' := []) (hS7.sel [] rfl rfl) (fun _ h => by cases h))⟩

theorem c_impl_within (n : Int) (low : Int) (high : Int)  (w0 : World)  (hS : ST w0 [] w0 [] []) {r_ : Bool} (hF : F_impl_within n low high = some r_) :
    CV Try.prog 82 #[.int .i64 n, .int .i64 low, .int .i64 high] w0 (fun v w' => v = .bool r_ ∧ ST w0 [] w' [] []) := by
  unfold F_impl_within at hF
  refine cv_of_cw 15 Try.func82 rfl Try.ntmps82 rfl ?_
  refine cw_seq ?_
  refine cw_region ?_
  refine sq 6 rfl rfl (Y_assign (v := .bool false) rfl rfl) ?_
  refine rw_nil ?_
  refine cw_seq ?_
  refine cw_region ?_
  refine sq 7 rfl rfl (Y_move (v := .int .i64 low) rfl rfl) ?_
  refine sq 8 rfl rfl (Y_move (v := .int .i64 n) rfl rfl) ?_
  refine sq 9 rfl rfl (Y_le (k := .i64) (a := low) (b := n) rfl rfl rfl) ?_
  refine sq 10 rfl rfl (Y_move (v := .bool (decide (low ≤ n))) rfl rfl) ?_
  refine sgq 11 (B := (decide (low ≤ n))) (v := .int .i64 n) rfl rfl (wt_t (gd_of (t := 10) (by kernel_rfl) rfl)) (fun hg => (Y_move (v := .int .i64 n) rfl rfl)) ?_
  refine sgq 12 (B := (decide (low ≤ n))) (v := .int .i64 high) rfl rfl (wt_t (gd_of (t := 10) (by kernel_rfl) rfl)) (fun hg1 => (Y_move (v := .int .i64 high) rfl rfl)) ?_
  refine sgq 13 (B := (decide (low ≤ n))) (v := .bool (decide (n ≤ high))) rfl rfl (wt_t (gd_of (t := 10) (by kernel_rfl) rfl)) (fun hg2 => (Y_le (k := .i64) (a := n) (b := high) rfl (gv_of (B := (decide (low ≤ n))) (v := .int .i64 n) hg2) (gv_of (B := (decide (low ≤ n))) (v := .int .i64 high) hg2))) ?_
  refine sq 14 rfl rfl (Y_and (b := (decide (low ≤ n))) (z := (decide (n ≤ high))) rfl rfl rfl rfl) ?_
  refine sq 6 rfl rfl (Y_assign (v := .bool ((decide (low ≤ n)) && (decide (n ≤ high)))) rfl rfl) ?_
  refine rw_nil ?_
  refine cw_ret ?_
  obtain rfl := some_inj hF
  exact ret1 Try.results82 (v1 := .bool ((decide (low ≤ n)) && (decide (n ≤ high)))) (resAt_tmp rfl) ⟨rfl, (ST.subR (R' := []) (hS.sel [] rfl rfl) (fun _ h => by cases h))⟩

theorem c_impl_IsValidPauli (n : Int) (p : TPauli)  (w0 : World)  (hS : ST w0 [] w0 [] []) {r_ : Bool} (hF : F_impl_IsValidPauli n p = some r_) :
    CV Try.prog 42 #[.int .i64 n, .agg #[.int .i64 p.Phase, .int .i64 p.X, .int .i64 p.Z]] w0 (fun v w' => v = .bool r_ ∧ ST w0 [] w' [] []) := by
  unfold F_impl_IsValidPauli at hF
  refine cv_of_cw 28 Try.func42 rfl Try.ntmps42 rfl ?_
  refine cw_seq ?_
  refine cw_region ?_
  refine ss 3 rfl rfl (Ys_box (T := 29) (v := .agg #[.int .i64 p.Phase, .int .i64 p.X, .int .i64 p.Z]) (cs := [.int .i64 p.Phase, .int .i64 p.X, .int .i64 p.Z]) (m := 3) hS rfl rfl rfl rfl) ?_
  rintro _ w_ ⟨b, rfl, hS1⟩
  refine sq 4 rfl rfl (Y_assign (v := .bool false) rfl rfl) ?_
  refine rw_nil ?_
  refine cw_seq ?_
  obtain ⟨r_1, hc, hF⟩ := bind_inv hF
  obtain ⟨r_2, hc1, hF⟩ := bind_inv hF
  obtain ⟨hsh, hF⟩ := chk_inv hF
  obtain ⟨r_3, hc2, hF⟩ := bind_inv hF
  obtain ⟨hsh1, hF⟩ := chk_inv hF
  obtain ⟨r_4, hc3, hF⟩ := bind_inv hF
  refine ra_start (ST.sel hS1 [0] rfl rfl).fn (by kernel_rfl) ?_
  have hS6 := hS1.drew
  refine ra_q 0 5 (v := .int .i64 n) rfl rfl rfl (by kernel_rfl) (by kernel_rfl) (by kernel_rfl) (ST.sel hS6 [0] rfl rfl) (fun w' hw' => (Y_move (v := .int .i64 n) rfl rfl)) ?_
  refine ra_all (rs := [1]) (by kernel_rfl) rfl ?_
  refine ra_c 6 (i := 1) rfl rfl rfl (Yc_func (g := 82) (vs := [.int .i64 n, .int .i64 1, .int .i64 5]) k_call_82 rfl (mc rfl (mc rfl (mc rfl mn))) (c_impl_within n 1 5 _  (hS6.inn0 [] rfl) hc)) ?_ ?_
  · rintro _ w_1 ⟨rfl, hd⟩
    have hS7 := hS6.out00 hd
    refine ⟨(ST.sel hS7 [0] rfl rfl), ?_⟩
    refine ra_q 2 7 (v := .bool r_1) rfl rfl rfl (by kernel_rfl) (by kernel_rfl) (by kernel_rfl) (ST.sel hS7 [0] rfl rfl) (fun w' hw' => (Y_move (v := .bool r_1) rfl rfl)) ?_
    refine ra_gq 3 8 (B := r_1) (v := pt (some ⟨b, 0, none⟩) 0) rfl rfl rfl (wt_t (gd_of (t := 7) (by kernel_rfl) rfl)) (by kernel_rfl) (by kernel_rfl) (by kernel_rfl) (ST.sel hS7 [0] rfl rfl) (fun hg w' hw' => (Y_fieldAddr (B := some ⟨b, 0, none⟩) (i := 0) (s := 0) k_fd_29_0_0_3 k_sz_3_1 rfl rfl)) ?_
    refine ra_gq 4 9 (B := r_1) (v := .int .i64 p.Phase) rfl rfl rfl (wt_t (gd_of (t := 7) (by kernel_rfl) rfl)) (by kernel_rfl) (by kernel_rfl) (by kernel_rfl) (ST.sel hS7 [0] rfl rfl) (fun hg1 w' hw' => (Y_load1 (B := some ⟨b, 0, none⟩) (i := 0) (cs := [.int .i64 p.Phase, .int .i64 p.X, .int .i64 p.Z]) (v := .int .i64 p.Phase) k_sc_3 rfl (gv_of (B := r_1) (v := pt (some ⟨b, 0, none⟩) 0) hg1) (ST.cf hw' (i := 0) rfl) rfl)) ?_
    refine ra_all (rs := [5]) (by kernel_rfl) rfl ?_
    refine ra_gc 10 (i := 5) (B := r_1) (v := .bool r_2) (F := hS7.fn) rfl rfl rfl (wt_t (gd_of (t := 7) (by kernel_rfl) rfl)) hS7 (fun hg2 => (Yc_func (g := 82) (vs := [.int .i64 p.Phase, .int .i64 0, .int .i64 3]) k_call_82 rfl (mc (gv_of (B := r_1) (v := .int .i64 p.Phase) hg2) (mc rfl (mc rfl mn))) (CV.mono (c_impl_within p.Phase 0 3 _  (hS7.inn0 [] rfl) (gb_inv hc1 hg2)) (by rintro _ _ ⟨rfl, h⟩; exact ⟨rfl, hS7.out00 h⟩)))) ?_ ?_
    · rintro w_2 hS8
      have hS8 : ST _ _ w_2 _ _ := hS8
      refine ⟨(ST.sel hS8 [0] rfl rfl), ?_⟩
      refine ra_q 6 11 (v := .bool (r_1 && r_2)) rfl rfl rfl (by kernel_rfl) (by kernel_rfl) (by kernel_rfl) (ST.sel hS8 [0] rfl rfl) (fun w' hw' => (Y_and (b := r_1) (z := r_2) rfl rfl rfl rfl)) ?_
      refine ra_q 7 12 (v := .bool (r_1 && r_2)) rfl rfl rfl (by kernel_rfl) (by kernel_rfl) (by kernel_rfl) (ST.sel hS8 [0] rfl rfl) (fun w' hw' => (Y_move (v := .bool (r_1 && r_2)) rfl rfl)) ?_
      refine ra_gq 8 13 (B := (r_1 && r_2)) (v := pt (some ⟨b, 0, none⟩) 1) rfl rfl rfl (wt_t (gd_of (t := 12) (by kernel_rfl) rfl)) (by kernel_rfl) (by kernel_rfl) (by kernel_rfl) (ST.sel hS8 [0] rfl rfl) (fun hg3 w' hw' => (Y_fieldAddr (B := some ⟨b, 0, none⟩) (i := 0) (s := 0) k_fd_29_1_1_3 k_sz_3_1 rfl rfl)) ?_
      refine ra_gq 9 14 (B := (r_1 && r_2)) (v := .int .i64 p.X) rfl rfl rfl (wt_t (gd_of (t := 12) (by kernel_rfl) rfl)) (by kernel_rfl) (by kernel_rfl) (by kernel_rfl) (ST.sel hS8 [0] rfl rfl) (fun hg4 w' hw' => (Y_load1 (B := some ⟨b, 0, none⟩) (i := 1) (cs := [.int .i64 p.Phase, .int .i64 p.X, .int .i64 p.Z]) (v := .int .i64 p.X) k_sc_3 rfl (gv_of (B := (r_1 && r_2)) (v := pt (some ⟨b, 0, none⟩) 1) hg4) (ST.cf hw' (i := 0) rfl) rfl)) ?_
      refine ra_gq 10 15 (B := (r_1 && r_2)) (v := .int .i64 n) rfl rfl rfl (wt_t (gd_of (t := 12) (by kernel_rfl) rfl)) (by kernel_rfl) (by kernel_rfl) (by kernel_rfl) (ST.sel hS8 [0] rfl rfl) (fun hg5 w' hw' => (Y_move (v := .int .i64 n) rfl rfl)) ?_
      refine ra_gq 11 16 (B := (r_1 && r_2)) (v := .int .i64 (shlK .i64 1 n)) rfl rfl rfl (wt_t (gd_of (t := 12) (by kernel_rfl) rfl)) (by kernel_rfl) (by kernel_rfl) (by kernel_rfl) (ST.sel hS8 [0] rfl rfl) (fun hg6 w' hw' => (Y_shl (k := .i64) (a := 1) (k' := .i64) (b := n) rfl rfl (gv_of (B := (r_1 && r_2)) (v := .int .i64 n) hg6) (hsh hg6))) ?_
      refine ra_gq 12 17 (B := (r_1 && r_2)) (v := .int .i64 (IntKind.i64.wrap ((shlK .i64 1 n) - 1))) rfl rfl rfl (wt_t (gd_of (t := 12) (by kernel_rfl) rfl)) (by kernel_rfl) (by kernel_rfl) (by kernel_rfl) (ST.sel hS8 [0] rfl rfl) (fun hg7 w' hw' => (Y_sub (k := .i64) (a := (shlK .i64 1 n)) (b := 1) rfl (gv_of (B := (r_1 && r_2)) (v := .int .i64 (shlK .i64 1 n)) hg7) rfl)) ?_
      refine ra_all (rs := [13]) (by kernel_rfl) rfl ?_
      refine ra_gc 18 (i := 13) (B := (r_1 && r_2)) (v := .bool r_3) (F := hS8.fn) rfl rfl rfl (wt_t (gd_of (t := 12) (by kernel_rfl) rfl)) hS8 (fun hg8 => (Yc_func (g := 82) (vs := [.int .i64 p.X, .int .i64 0, .int .i64 (IntKind.i64.wrap ((shlK .i64 1 n) - 1))]) k_call_82 rfl (mc (gv_of (B := (r_1 && r_2)) (v := .int .i64 p.X) hg8) (mc rfl (mc (gv_of (B := (r_1 && r_2)) (v := .int .i64 (IntKind.i64.wrap ((shlK .i64 1 n) - 1))) hg8) mn))) (CV.mono (c_impl_within p.X 0 (IntKind.i64.wrap ((shlK .i64 1 n) - 1)) _  (hS8.inn0 [] rfl) (gb_inv hc2 hg8)) (by rintro _ _ ⟨rfl, h⟩; exact ⟨rfl, hS8.out00 h⟩)))) ?_ ?_
      · rintro w_3 hS9
        have hS9 : ST _ _ w_3 _ _ := hS9
        refine ⟨(ST.sel hS9 [0] rfl rfl), ?_⟩
        refine ra_q 14 19 (v := .bool ((r_1 && r_2) && r_3)) rfl rfl rfl (by kernel_rfl) (by kernel_rfl) (by kernel_rfl) (ST.sel hS9 [0] rfl rfl) (fun w' hw' => (Y_and (b := (r_1 && r_2)) (z := r_3) rfl rfl rfl rfl)) ?_
        refine ra_q 15 20 (v := .bool ((r_1 && r_2) && r_3)) rfl rfl rfl (by kernel_rfl) (by kernel_rfl) (by kernel_rfl) (ST.sel hS9 [0] rfl rfl) (fun w' hw' => (Y_move (v := .bool ((r_1 && r_2) && r_3)) rfl rfl)) ?_
        refine ra_gq 16 21 (B := ((r_1 && r_2) && r_3)) (v := pt (some ⟨b, 0, none⟩) 2) rfl rfl rfl (wt_t (gd_of (t := 20) (by kernel_rfl) rfl)) (by kernel_rfl) (by kernel_rfl) (by kernel_rfl) (ST.sel hS9 [0] rfl rfl) (fun hg9 w' hw' => (Y_fieldAddr (B := some ⟨b, 0, none⟩) (i := 0) (s := 0) k_fd_29_2_2_3 k_sz_3_1 rfl rfl)) ?_
        refine ra_gq 17 22 (B := ((r_1 && r_2) && r_3)) (v := .int .i64 p.Z) rfl rfl rfl (wt_t (gd_of (t := 20) (by kernel_rfl) rfl)) (by kernel_rfl) (by kernel_rfl) (by kernel_rfl) (ST.sel hS9 [0] rfl rfl) (fun hg10 w' hw' => (Y_load1 (B := some ⟨b, 0, none⟩) (i := 2) (cs := [.int .i64 p.Phase, .int .i64 p.X, .int .i64 p.Z]) (v := .int .i64 p.Z) k_sc_3 rfl (gv_of (B := ((r_1 && r_2) && r_3)) (v := pt (some ⟨b, 0, none⟩) 2) hg10) (ST.cf hw' (i := 0) rfl) rfl)) ?_
        refine ra_gq 18 23 (B := ((r_1 && r_2) && r_3)) (v := .int .i64 n) rfl rfl rfl (wt_t (gd_of (t := 20) (by kernel_rfl) rfl)) (by kernel_rfl) (by kernel_rfl) (by kernel_rfl) (ST.sel hS9 [0] rfl rfl) (fun hg11 w' hw' => (Y_move (v := .int .i64 n) rfl rfl)) ?_
        refine ra_gq 19 24 (B := ((r_1 && r_2) && r_3)) (v := .int .i64 (shlK .i64 1 n)) rfl rfl rfl (wt_t (gd_of (t := 20) (by kernel_rfl) rfl)) (by kernel_rfl) (by kernel_rfl) (by kernel_rfl) (ST.sel hS9 [0] rfl rfl) (fun hg12 w' hw' => (Y_shl (k := .i64) (a := 1) (k' := .i64) (b := n) rfl rfl (gv_of (B := ((r_1 && r_2) && r_3)) (v := .int .i64 n) hg12) (hsh1 hg12))) ?_
        refine ra_gq 20 25 (B := ((r_1 && r_2) && r_3)) (v := .int .i64 (IntKind.i64.wrap ((shlK .i64 1 n) - 1))) rfl rfl rfl (wt_t (gd_of (t := 20) (by kernel_rfl) rfl)) (by kernel_rfl) (by kernel_rfl) (by kernel_rfl) (ST.sel hS9 [0] rfl rfl) (fun hg13 w' hw' => (Y_sub (k := .i64) (a := (shlK .i64 1 n)) (b := 1) rfl (gv_of (B := ((r_1 && r_2) && r_3)) (v := .int .i64 (shlK .i64 1 n)) hg13) rfl)) ?_
        refine ra_all (rs := [21]) (by kernel_rfl) rfl ?_
        refine ra_gc 26 (i := 21) (B := ((r_1 && r_2) && r_3)) (v := .bool r_4) (F := hS9.fn) rfl rfl rfl (wt_t (gd_of (t := 20) (by kernel_rfl) rfl)) hS9 (fun hg14 => (Yc_func (g := 82) (vs := [.int .i64 p.Z, .int .i64 0, .int .i64 (IntKind.i64.wrap ((shlK .i64 1 n) - 1))]) k_call_82 rfl (mc (gv_of (B := ((r_1 && r_2) && r_3)) (v := .int .i64 p.Z) hg14) (mc rfl (mc (gv_of (B := ((r_1 && r_2) && r_3)) (v := .int .i64 (IntKind.i64.wrap ((shlK .i64 1 n) - 1))) hg14) mn))) (CV.mono (c_impl_within p.Z 0 (IntKind.i64.wrap ((shlK .i64 1 n) - 1)) _  (hS9.inn0 [] rfl) (gb_inv hc3 hg14)) (by rintro _ _ ⟨rfl, h⟩; exact ⟨rfl, hS9.out00 h⟩)))) ?_ ?_
        · rintro w_4 hS10
          have hS10 : ST _ _ w_4 _ _ := hS10
          refine ⟨(ST.sel hS10 [0] rfl rfl), ?_⟩
          refine ra_q 22 27 (v := .bool (((r_1 && r_2) && r_3) && r_4)) rfl rfl rfl (by kernel_rfl) (by kernel_rfl) (by kernel_rfl) (ST.sel hS10 [0] rfl rfl) (fun w' hw' => (Y_and (b := ((r_1 && r_2) && r_3)) (z := r_4) rfl rfl rfl rfl)) ?_
          refine ra_q 23 4 (v := .bool (((r_1 && r_2) && r_3) && r_4)) rfl rfl rfl (by kernel_rfl) (by kernel_rfl) (by kernel_rfl) (ST.sel hS10 [0] rfl rfl) (fun w' hw' => (Y_assign (v := .bool (((r_1 && r_2) && r_3) && r_4)) rfl rfl)) ?_
          refine ra_done (by kernel_rfl) ?_
          refine cw_ret ?_
          obtain rfl := some_inj hF
          exact ret1 Try.results42 (v1 := .bool (((r_1 && r_2) && r_3) && r_4)) (resAt_tmp rfl) ⟨rfl, (ST.subR (R' := []) (hS10.sel [] rfl rfl) (fun _ h => by cases h))⟩
        exact allR_nil
      exact allR_nil
    exact allR_nil
  exact allR_nil

theorem c_impl_isDim (n : Int)  (w0 : World)  (hS : ST w0 [] w0 [] []) {r_ : Bool} (hF : F_impl_isDim n = some r_) :
    CV Try.prog 99 #[.int .i64 n] w0 (fun v w' => v = .bool r_ ∧ ST w0 [] w' [] []) := by
  unfold F_impl_isDim at hF
  refine cv_of_cw 12 Try.func99 rfl Try.ntmps99 rfl ?_
  refine cw_seq ?_
  refine cw_region ?_
  refine sq 2 rfl rfl (Y_assign (v := .bool false) rfl rfl) ?_
  refine rw_nil ?_
  refine cw_seq ?_
  refine cw_region ?_
  refine sq 3 rfl rfl (Y_move (v := .int .i64 n) rfl rfl) ?_
  obtain ⟨r_1, hc, hF⟩ := bind_inv hF
  refine sc 4 rfl rfl (Yc_func (g := 82) (vs := [.int .i64 n, .int .i64 1, .int .i64 32]) k_call_82 rfl (mc rfl (mc rfl (mc rfl mn))) (c_impl_within n 1 32 _  (hS.inn0 [] rfl) hc)) ?_
  rintro _ w_ ⟨rfl, hd⟩
  have hS1 := hS.out00 hd
  refine sq 5 rfl rfl (Y_move (v := .bool r_1) rfl rfl) ?_
  refine sgq 6 (B := r_1) (v := .int .i64 n) rfl rfl (wt_t (gd_of (t := 5) (by kernel_rfl) rfl)) (fun hg => (Y_move (v := .int .i64 n) rfl rfl)) ?_
  refine sgq 7 (B := r_1) (v := .int .i64 n) rfl rfl (wt_t (gd_of (t := 5) (by kernel_rfl) rfl)) (fun hg1 => (Y_move (v := .int .i64 n) rfl rfl)) ?_
  refine sgq 8 (B := r_1) (v := .int .i64 (IntKind.i64.wrap (n - 1))) rfl rfl (wt_t (gd_of (t := 5) (by kernel_rfl) rfl)) (fun hg2 => (Y_sub (k := .i64) (a := n) (b := 1) rfl (gv_of (B := r_1) (v := .int .i64 n) hg2) rfl)) ?_
  refine sgq 9 (B := r_1) (v := .int .i64 (bits .and .i64 n (IntKind.i64.wrap (n - 1)))) rfl rfl (wt_t (gd_of (t := 5) (by kernel_rfl) rfl)) (fun hg3 => (Y_band (k := .i64) (a := n) (b := (IntKind.i64.wrap (n - 1))) rfl (gv_of (B := r_1) (v := .int .i64 n) hg3) (gv_of (B := r_1) (v := .int .i64 (IntKind.i64.wrap (n - 1))) hg3))) ?_
  refine sgq 10 (B := r_1) (v := .bool ((bits .and .i64 n (IntKind.i64.wrap (n - 1))) == 0)) rfl rfl (wt_t (gd_of (t := 5) (by kernel_rfl) rfl)) (fun hg4 => (Y_eq (k := .i64) (a := (bits .and .i64 n (IntKind.i64.wrap (n - 1)))) (b := 0) rfl (gv_of (B := r_1) (v := .int .i64 (bits .and .i64 n (IntKind.i64.wrap (n - 1)))) hg4) rfl)) ?_
  refine sq 11 rfl rfl (Y_and (b := r_1) (z := ((bits .and .i64 n (IntKind.i64.wrap (n - 1))) == 0)) rfl rfl rfl rfl) ?_
  refine sq 2 rfl rfl (Y_assign (v := .bool (r_1 && ((bits .and .i64 n (IntKind.i64.wrap (n - 1))) == 0))) rfl rfl) ?_
  refine rw_nil ?_
  refine cw_ret ?_
  obtain rfl := some_inj hF
  exact ret1 Try.results99 (v1 := .bool (r_1 && ((bits .and .i64 n (IntKind.i64.wrap (n - 1))) == 0))) (resAt_tmp rfl) ⟨rfl, (ST.subR (R' := []) (hS1.sel [] rfl rfl) (fun _ h => by cases h))⟩

theorem c_impl_matrixOf (rows : Int) (cols : Int) (cell : Int → Int → Option (TDyadic × Bool)) (kf : Nat) (caps : Array Value) (Rf : List Ro) (w0 : World) (hk : callB Try.prog kf = true) (hp : ∀ (w : World), ST w [] w [] Rf → ∀ (x : Int) (x1 : Int) (y1 : TDyadic) (y2 : Bool), cell x x1 = some (y1, y2) → CV Try.prog kf ((.int .i64 x) :: (.int .i64 x1) :: caps.toList).toArray w (fun v w' => v = .tuple #[.agg #[.int .i64 y1.Num.A, .int .i64 y1.Num.B, .int .i64 y1.Num.C, .int .i64 y1.Num.D, .int .i64 y1.Exp], .bool y2] ∧ ST w [] w' [] [])) (hS : ST w0 [] w0 [] (Rf)) {r_ : TMatrix} {r_1 : Bool} (hF : F_impl_matrixOf rows cols cell = some (r_, r_1)) :
    CV Try.prog 43 #[.int .i64 rows, .int .i64 cols, .func (.func kf) #[] caps] w0 (fun v w' => ∃ (B : Option Addr) (c : Nat), v = .tuple #[.agg #[.int .i64 r_.Rows, .int .i64 r_.Cols, .slice B r_.Cells.length c], .bool r_1] ∧ ST w0 [] w' [⟨B, 44, (r_.Cells.flatMap enc_Dyadic), c * 5⟩] []) := by
  unfold F_impl_matrixOf at hF
  refine cv_of_cw 52 Try.func43 rfl Try.ntmps43 rfl ?_
  refine cw_seq ?_
  refine cw_region ?_
  refine ss 6 rfl rfl (Ys_alloc (T := 26) (cs := [.int .i64 0, .int .i64 0, .slice none 0 0]) (m := 3) hS k_zero_26 rfl rfl rfl) ?_
  rintro _ w_ ⟨b, rfl, hS1⟩
  refine sq 7 rfl rfl (Y_assign (v := .bool false) rfl rfl) ?_
  refine rw_nil ?_
  refine cw_seq ?_
  refine cw_region ?_
  refine sq 13 rfl rfl (Y_move (v := .int .i64 rows) rfl rfl) ?_
  refine sq 14 rfl rfl (Y_move (v := .int .i64 cols) rfl rfl) ?_
  refine sq 15 rfl rfl (Y_buildS (zs := [.int .i64 0, .int .i64 0, .slice none 0 0]) (vs := [(0, .int .i64 rows), (1, .int .i64 cols)]) (cs := [.int .i64 rows, .int .i64 cols, .slice none 0 0]) k_pl_26 k_zero_26 rfl (mpc rfl (mpc rfl mpn)) rfl) ?_
  refine ss 8 rfl rfl (Ys_alloc (T := 26) (cs := [.int .i64 0, .int .i64 0, .slice none 0 0]) (m := 3) hS1 k_zero_26 rfl rfl rfl) ?_
  rintro _ w_1 ⟨b1, rfl, hS2⟩
  have hS2 : ST w0 [] _ [⟨some ⟨b, 0, none⟩, 26, [.int .i64 0, .int .i64 0, .slice none 0 0], 3⟩, ⟨some ⟨b1, 0, none⟩, 26, [.int .i64 0, .int .i64 0, .slice none 0 0], 3⟩] (Rf) := hS2
  refine ss0 rfl rfl (Ys_store (i := 1) (s := 3) (B := some ⟨b1, 0, none⟩) (T' := 26) (v := .agg #[.int .i64 rows, .int .i64 cols, .slice none 0 0]) (vs := [.int .i64 rows, .int .i64 cols, .slice none 0 0]) (k := 0) (cs' := [.int .i64 rows, .int .i64 cols, .slice none 0 0]) hS2 k_sz_26_3 rfl rfl rfl rfl rfl rfl rfl (Nat.le_of_ble_eq_true rfl) rfl rfl) ?_
  rintro _ w_2 ⟨rfl, hS3⟩
  have hS3 : ST w0 [] _ [⟨some ⟨b, 0, none⟩, 26, [.int .i64 0, .int .i64 0, .slice none 0 0], 3⟩, ⟨some ⟨b1, 0, none⟩, 26, [.int .i64 rows, .int .i64 cols, .slice none 0 0], 3⟩] (Rf) := hS3
  refine rw_nil ?_
  refine cw_seq ?_
  refine cw_seq ?_
  refine cw_region ?_
  refine sq 16 rfl rfl (Y_move (v := .int .i64 rows) rfl rfl) ?_
  obtain ⟨r_2, hc, hF⟩ := bind_inv hF
  refine sc 17 rfl rfl (Yc_func (g := 99) (vs := [.int .i64 rows]) k_call_99 rfl (mc rfl mn) (c_impl_isDim rows _  (hS3.inn0 [] rfl) hc)) ?_
  rintro _ w_3 ⟨rfl, hd⟩
  have hS4 := hS3.out00 hd
  have hS4 : ST w0 [] _ [⟨some ⟨b, 0, none⟩, 26, [.int .i64 0, .int .i64 0, .slice none 0 0], 3⟩, ⟨some ⟨b1, 0, none⟩, 26, [.int .i64 rows, .int .i64 cols, .slice none 0 0], 3⟩] (Rf) := hS4
  refine sq 18 rfl rfl (Y_not (p := r_2) rfl rfl) ?_
  refine sq 19 rfl rfl (Y_move (v := .bool (!r_2)) rfl rfl) ?_
  refine sgq 20 (B := (!(!r_2))) (v := .int .i64 cols) rfl rfl (wt_f (gd_of (t := 19) (by kernel_rfl) rfl)) (fun hg => (Y_move (v := .int .i64 cols) rfl rfl)) ?_
  obtain ⟨r_3, hc1, hF⟩ := bind_inv hF
  refine sgc 21 (B := (!(!r_2))) (v := .bool r_3) (F := hS4.fn) rfl rfl (wt_f (gd_of (t := 19) (by kernel_rfl) rfl)) hS4 (fun hg1 => (Yc_func (g := 99) (vs := [.int .i64 cols]) k_call_99 rfl (mc (gv_of (B := (!(!r_2))) (v := .int .i64 cols) hg1) mn) (CV.mono (c_impl_isDim cols _  (hS4.inn0 [] rfl) (gb_inv hc1 hg1)) (by rintro _ _ ⟨rfl, h⟩; exact ⟨rfl, hS4.out00 h⟩)))) ?_
  rintro w_4 hS5
  have hS5 : ST _ _ w_4 _ _ := hS5
  refine sgq 22 (B := (!(!r_2))) (v := .bool (!r_3)) rfl rfl (wt_f (gd_of (t := 19) (by kernel_rfl) rfl)) (fun hg2 => (Y_not (p := r_3) rfl (gv_of (B := (!(!r_2))) (v := .bool r_3) hg2))) ?_
  refine sq 23 rfl rfl (Y_or (b := (!r_2)) (z := (!r_3)) rfl rfl rfl rfl) ?_
  refine rw_nil ?_
  refine cw_cond (b := ((!r_2) || (!r_3))) rfl (fun hb => ?_) (fun hb => ?_)
  · skip
    have hF1 := ct hF hb
    refine cw_seq ?_
    refine cw_region ?_
    refine sq 24 rfl rfl (Y_buildS (zs := [.int .i64 0, .int .i64 0, .slice none 0 0]) (vs := []) (cs := [.int .i64 0, .int .i64 0, .slice none 0 0]) k_pl_26 k_zero_26 rfl mpn rfl) ?_
    refine ss0 rfl rfl (Ys_store (i := 0) (s := 3) (B := some ⟨b, 0, none⟩) (T' := 26) (v := .agg #[.int .i64 0, .int .i64 0, .slice none 0 0]) (vs := [.int .i64 0, .int .i64 0, .slice none 0 0]) (k := 0) (cs' := [.int .i64 0, .int .i64 0, .slice none 0 0]) hS5 k_sz_26_3 rfl rfl rfl rfl rfl rfl rfl (Nat.le_of_ble_eq_true rfl) rfl rfl) ?_
    rintro _ w_5 ⟨rfl, hS6⟩
    have hS6 : ST w0 [] _ [⟨some ⟨b, 0, none⟩, 26, [.int .i64 0, .int .i64 0, .slice none 0 0], 3⟩, ⟨some ⟨b1, 0, none⟩, 26, [.int .i64 rows, .int .i64 cols, .slice none 0 0], 3⟩] (Rf) := hS6
    refine sq 7 rfl rfl (Y_assign (v := .bool false) rfl rfl) ?_
    refine rw_nil ?_
    refine cw_ret ?_
    have hS7 := hS6.addNil 44
    obtain ⟨rfl, rfl⟩ := pr2 (some_inj hF1)
    exact ret2 Try.results43 (v1 := .agg #[.int .i64 0, .int .i64 0, .slice none 0 0]) (resAt_cellA (B := some ⟨b, 0, none⟩) (i := 0) (cs := [.int .i64 0, .int .i64 0, .slice none 0 0]) (vs := [.int .i64 0, .int .i64 0, .slice none 0 0]) rfl k_ag_26 k_sz_26_3 (hS7.cf (i := 0) rfl) rfl rfl) (v2 := .bool false) (resAt_tmp rfl) ⟨none, 0, rfl, (ST.subR (R' := []) (hS7.sel [2] rfl rfl) (fun _ h => by cases h))⟩
  · skip
    have hF2 := cf' hF hb
    refine cw_skip ?_
    refine cw_seq ?_
    refine cw_seq ?_
    refine cw_region ?_
    refine sq 25 rfl rfl (Y_move (v := .int .i64 rows) rfl rfl) ?_
    refine sq 26 rfl rfl (Y_move (v := .int .i64 0) rfl rfl) ?_
    refine rw_nil ?_
    obtain ⟨hN, hF2⟩ := chk_inv hF2
    obtain ⟨z, hz, hF3⟩ := bind_inv hF2
    have hS9 := hS5.addNil 44
    refine cw_block ?_
    refine cw_loop (fun k f w => ∃ (i : Nat) (Cells : List TDyadic) (B1 : Option Addr) (c1 : Nat), FF f [(1, .int .i64 cols), (2, .func (.func kf) #[] caps), (6, pt (some ⟨b, 0, none⟩) 0), (8, pt (some ⟨b1, 0, none⟩) 0), (25, .int .i64 rows), (26, .int .i64 (i : Int))] ∧ ST w0 [] w [⟨some ⟨b, 0, none⟩, 26, [.int .i64 0, .int .i64 0, .slice none 0 0], 3⟩, ⟨some ⟨b1, 0, none⟩, 26, [.int .i64 rows, .int .i64 cols, .slice B1 Cells.length c1], 3⟩, ⟨B1, 44, (Cells.flatMap enc_Dyadic), c1 * 5⟩] (Rf) ∧ i + k = rows.toNat ∧ forX (F_impl_matrixOf_l1 cols cell) k i Cells = some z) rows.toNat ⟨0, [], none, 0, (FF.cons rfl (FF.cons rfl (FF.cons rfl (FF.cons rfl (FF.cons rfl (FF.cons rfl FF.nil)))))), (hS9.sel [0, 1, 2] rfl rfl), Nat.zero_add _, hz⟩ ?_
    rintro k_ f w ⟨i, Cells, B1, c1, hf, hS8, hik, hL⟩
    refine cw_seq ?_
    refine cw_region ?_
    refine sq 27 rfl rfl (Y_lt (k := .i64) (a := (i : Int)) (b := rows) rfl (hf.get 26 5 rfl) (hf.get 25 4 rfl)) ?_
    refine rw_nil ?_
    refine cw_seq ?_
    refine cw_cond (b := (decide ((i : Int) < rows))) rfl (fun hlt => ?_) (fun hlt => ?_)
    · skip
      have hlt1 : i < rows.toNat := by have h := of_decide_eq_true hlt; omega
      obtain ⟨k_1, rfl⟩ : ∃ k2, k_ = k2 + 1 := ⟨k_ - 1, by omega⟩
      obtain ⟨y3, hb1, hL1⟩ := forX_go hL
      unfold F_impl_matrixOf_l1 at hb1
      refine cw_skip ?_
      refine cw_seq ?_
      refine cw_block ?_
      refine cw_seq ?_
      refine cw_region ?_
      refine sq 28 rfl rfl (Y_move (v := .int .i64 (i : Int)) rfl (hf.get 26 5 rfl)) ?_
      refine sq 9 rfl rfl (Y_assign (v := .int .i64 (i : Int)) rfl rfl) ?_
      refine rw_nil ?_
      refine cw_seq ?_
      refine cw_region ?_
      refine sq 29 rfl rfl (Y_move (v := .int .i64 cols) rfl (hf.get 1 0 rfl)) ?_
      refine sq 30 rfl rfl (Y_move (v := .int .i64 0) rfl rfl) ?_
      refine rw_nil ?_
      obtain ⟨hN1, hb1⟩ := chk_inv hb1
      obtain ⟨z1, hz1, hF4⟩ := bind_inv hb1
      refine cw_block ?_
      refine cw_loop (fun k f w => ∃ (i1 : Nat) (Cells1 : List TDyadic) (B2 : Option Addr) (c2 : Nat), FF f [(1, .int .i64 cols), (2, .func (.func kf) #[] caps), (6, pt (some ⟨b, 0, none⟩) 0), (8, pt (some ⟨b1, 0, none⟩) 0), (9, .int .i64 (i : Int)), (25, .int .i64 rows), (26, .int .i64 (i : Int)), (29, .int .i64 cols), (30, .int .i64 (i1 : Int))] ∧ ST w0 [] w [⟨some ⟨b, 0, none⟩, 26, [.int .i64 0, .int .i64 0, .slice none 0 0], 3⟩, ⟨some ⟨b1, 0, none⟩, 26, [.int .i64 rows, .int .i64 cols, .slice B2 Cells1.length c2], 3⟩, ⟨B2, 44, (Cells1.flatMap enc_Dyadic), c2 * 5⟩] (Rf) ∧ i1 + k = cols.toNat ∧ forX (F_impl_matrixOf_l2 cell i) k i1 Cells1 = some z1) cols.toNat ⟨0, Cells, B1, c1, (FF.cons (hf.get 1 0 rfl) (FF.cons (hf.get 2 1 rfl) (FF.cons (hf.get 6 2 rfl) (FF.cons (hf.get 8 3 rfl) (FF.cons rfl (FF.cons (hf.get 25 4 rfl) (FF.cons (hf.get 26 5 rfl) (FF.cons rfl (FF.cons rfl FF.nil))))))))), (hS8.sel [0, 1, 2] rfl rfl), Nat.zero_add _, hz1⟩ ?_
      rintro k_2 f w ⟨i1, Cells1, B2, c2, hf1, hS10, hik1, hL2⟩
      refine cw_seq ?_
      refine cw_region ?_
      refine sq 31 rfl rfl (Y_lt (k := .i64) (a := (i1 : Int)) (b := cols) rfl (hf1.get 30 8 rfl) (hf1.get 29 7 rfl)) ?_
      refine rw_nil ?_
      refine cw_seq ?_
      refine cw_cond (b := (decide ((i1 : Int) < cols))) rfl (fun hlt2 => ?_) (fun hlt2 => ?_)
      · skip
        have hlt3 : i1 < cols.toNat := by have h := of_decide_eq_true hlt2; omega
        obtain ⟨k_3, rfl⟩ : ∃ k2, k_2 = k2 + 1 := ⟨k_2 - 1, by omega⟩
        obtain ⟨y4, hb2, hL3⟩ := forX_go hL2
        unfold F_impl_matrixOf_l2 at hb2
        refine cw_skip ?_
        refine cw_seq ?_
        refine cw_block ?_
        refine cw_seq ?_
        refine cw_region ?_
        refine sq 32 rfl rfl (Y_move (v := .int .i64 (i1 : Int)) rfl (hf1.get 30 8 rfl)) ?_
        refine sq 10 rfl rfl (Y_assign (v := .int .i64 (i1 : Int)) rfl rfl) ?_
        refine rw_nil ?_
        refine cw_seq ?_
        refine cw_region ?_
        refine sq 34 rfl rfl (Y_move (v := .func (.func kf) #[] caps) rfl (hf1.get 2 1 rfl)) ?_
        refine sq 35 rfl rfl (Y_move (v := .int .i64 (i : Int)) rfl (hf1.get 9 4 rfl)) ?_
        refine sq 36 rfl rfl (Y_move (v := .int .i64 (i1 : Int)) rfl rfl) ?_
        obtain ⟨⟨r_4, r_5⟩, hc2, hb2⟩ := bind_inv hb2
        refine sc 37 rfl rfl (Yc_clos (g := kf) (vs := (.int .i64 (i : Int)) :: (.int .i64 (i1 : Int)) :: caps.toList) hk rfl rfl (clo_args (mc rfl (mc rfl mn))) (hp _ (hS10.innS (fun _ h => List.mem_of_mem_drop (i := 0) h)) (i : Int) (i1 : Int) r_4 r_5 hc2)) ?_
        rintro _ w_6 ⟨rfl, hd1⟩
        have hS11 := hS10.out00 hd1
        have hS11 : ST w0 [] _ [⟨some ⟨b, 0, none⟩, 26, [.int .i64 0, .int .i64 0, .slice none 0 0], 3⟩, ⟨some ⟨b1, 0, none⟩, 26, [.int .i64 rows, .int .i64 cols, .slice B2 Cells1.length c2], 3⟩, ⟨B2, 44, (Cells1.flatMap enc_Dyadic), c2 * 5⟩] (Rf) := hS11
        refine sq 33 rfl rfl (Y_move (v := .tuple #[.agg #[.int .i64 r_4.Num.A, .int .i64 r_4.Num.B, .int .i64 r_4.Num.C, .int .i64 r_4.Num.D, .int .i64 r_4.Exp], .bool r_5]) rfl rfl) ?_
        refine sq 38 rfl rfl (Y_extract (v := .agg #[.int .i64 r_4.Num.A, .int .i64 r_4.Num.B, .int .i64 r_4.Num.C, .int .i64 r_4.Num.D, .int .i64 r_4.Exp]) rfl rfl rfl) ?_
        refine sq 39 rfl rfl (Y_extract (v := .bool r_5) rfl rfl rfl) ?_
        refine ss 11 rfl rfl (Ys_alloc (T := 44) (cs := [.int .i64 0, .int .i64 0, .int .i64 0, .int .i64 0, .int .i64 0]) (m := 5) hS11 k_zero_44 rfl rfl rfl) ?_
        rintro _ w_7 ⟨b2, rfl, hS12⟩
        have hS12 : ST w0 [] _ [⟨some ⟨b, 0, none⟩, 26, [.int .i64 0, .int .i64 0, .slice none 0 0], 3⟩, ⟨some ⟨b1, 0, none⟩, 26, [.int .i64 rows, .int .i64 cols, .slice B2 Cells1.length c2], 3⟩, ⟨B2, 44, (Cells1.flatMap enc_Dyadic), c2 * 5⟩, ⟨some ⟨b2, 0, none⟩, 44, [.int .i64 0, .int .i64 0, .int .i64 0, .int .i64 0, .int .i64 0], 5⟩] (Rf) := hS12
        refine ss0 rfl rfl (Ys_store (i := 3) (s := 5) (B := some ⟨b2, 0, none⟩) (T' := 44) (v := .agg #[.int .i64 r_4.Num.A, .int .i64 r_4.Num.B, .int .i64 r_4.Num.C, .int .i64 r_4.Num.D, .int .i64 r_4.Exp]) (vs := [.int .i64 r_4.Num.A, .int .i64 r_4.Num.B, .int .i64 r_4.Num.C, .int .i64 r_4.Num.D, .int .i64 r_4.Exp]) (k := 0) (cs' := [.int .i64 r_4.Num.A, .int .i64 r_4.Num.B, .int .i64 r_4.Num.C, .int .i64 r_4.Num.D, .int .i64 r_4.Exp]) hS12 k_sz_44_5 rfl rfl rfl rfl rfl rfl rfl (Nat.le_of_ble_eq_true rfl) rfl rfl) ?_
        rintro _ w_8 ⟨rfl, hS13⟩
        have hS13 : ST w0 [] _ [⟨some ⟨b, 0, none⟩, 26, [.int .i64 0, .int .i64 0, .slice none 0 0], 3⟩, ⟨some ⟨b1, 0, none⟩, 26, [.int .i64 rows, .int .i64 cols, .slice B2 Cells1.length c2], 3⟩, ⟨B2, 44, (Cells1.flatMap enc_Dyadic), c2 * 5⟩, ⟨some ⟨b2, 0, none⟩, 44, [.int .i64 r_4.Num.A, .int .i64 r_4.Num.B, .int .i64 r_4.Num.C, .int .i64 r_4.Num.D, .int .i64 r_4.Exp], 5⟩] (Rf) := hS13
        refine sq 12 rfl rfl (Y_assign (v := .bool r_5) rfl rfl) ?_
        refine rw_nil ?_
        refine cw_seq ?_
        refine cw_seq ?_
        refine cw_region ?_
        refine sq 40 rfl rfl (Y_move (v := .bool r_5) rfl rfl) ?_
        refine sq 41 rfl rfl (Y_not (p := r_5) rfl rfl) ?_
        refine rw_nil ?_
        refine cw_cond (b := (!r_5)) rfl (fun hb3 => ?_) (fun hb3 => ?_)
        · skip
          have hF5 := ct hb2 hb3
          refine cw_seq ?_
          refine cw_region ?_
          refine sq 42 rfl rfl (Y_buildS (zs := [.int .i64 0, .int .i64 0, .slice none 0 0]) (vs := []) (cs := [.int .i64 0, .int .i64 0, .slice none 0 0]) k_pl_26 k_zero_26 rfl mpn rfl) ?_
          refine ss0 rfl rfl (Ys_store (i := 0) (s := 3) (B := some ⟨b, 0, none⟩) (T' := 26) (v := .agg #[.int .i64 0, .int .i64 0, .slice none 0 0]) (vs := [.int .i64 0, .int .i64 0, .slice none 0 0]) (k := 0) (cs' := [.int .i64 0, .int .i64 0, .slice none 0 0]) hS13 k_sz_26_3 rfl (hf1.get 6 2 rfl) rfl rfl rfl rfl rfl (Nat.le_of_ble_eq_true rfl) rfl rfl) ?_
          rintro _ w_9 ⟨rfl, hS14⟩
          have hS14 : ST w0 [] _ [⟨some ⟨b, 0, none⟩, 26, [.int .i64 0, .int .i64 0, .slice none 0 0], 3⟩, ⟨some ⟨b1, 0, none⟩, 26, [.int .i64 rows, .int .i64 cols, .slice B2 Cells1.length c2], 3⟩, ⟨B2, 44, (Cells1.flatMap enc_Dyadic), c2 * 5⟩, ⟨some ⟨b2, 0, none⟩, 44, [.int .i64 r_4.Num.A, .int .i64 r_4.Num.B, .int .i64 r_4.Num.C, .int .i64 r_4.Num.D, .int .i64 r_4.Exp], 5⟩] (Rf) := hS14
          refine sq 7 rfl rfl (Y_assign (v := .bool false) rfl rfl) ?_
          refine rw_nil ?_
          refine cw_ret ?_
          have hS15 := hS14.addNil 44
          obtain rfl := some_inj hF5
          obtain rfl := some_inj hL3
          obtain rfl := some_inj hF4
          obtain rfl := some_inj hL1
          obtain ⟨rfl, rfl⟩ := pr2 (some_inj hF3)
          exact ret2 Try.results43 (v1 := .agg #[.int .i64 0, .int .i64 0, .slice none 0 0]) (resAt_cellA (B := some ⟨b, 0, none⟩) (i := 0) (cs := [.int .i64 0, .int .i64 0, .slice none 0 0]) (vs := [.int .i64 0, .int .i64 0, .slice none 0 0]) (hf1.get 6 2 rfl) k_ag_26 k_sz_26_3 (hS15.cf (i := 0) rfl) rfl rfl) (v2 := .bool false) (resAt_tmp rfl) ⟨none, 0, rfl, (ST.subR (R' := []) (hS15.sel [4] rfl rfl) (fun _ h => by cases h))⟩
        · skip
          have hF6 := cf' hb2 hb3
          refine cw_skip ?_
          refine cw_region ?_
          refine sq 43 rfl rfl (Y_fieldAddr (B := some ⟨b1, 0, none⟩) (i := 0) (s := 0) k_fd_26_2_2_24 k_sz_24_1 rfl (hf1.get 8 3 rfl)) ?_
          refine sq 44 rfl rfl (Y_load1 (B := some ⟨b1, 0, none⟩) (i := 2) (cs := [.int .i64 rows, .int .i64 cols, .slice B2 Cells1.length c2]) (v := .slice B2 Cells1.length c2) k_sc_24 rfl rfl (hS13.cf (i := 1) rfl) rfl) ?_
          refine sq 45 rfl rfl (Y_loadA (B := some ⟨b2, 0, none⟩) (i := 0) (cs := [.int .i64 r_4.Num.A, .int .i64 r_4.Num.B, .int .i64 r_4.Num.C, .int .i64 r_4.Num.D, .int .i64 r_4.Exp]) (vs := [.int .i64 r_4.Num.A, .int .i64 r_4.Num.B, .int .i64 r_4.Num.C, .int .i64 r_4.Num.D, .int .i64 r_4.Exp]) k_ag_44 k_sz_44_5 rfl rfl (hS13.cf (i := 3) rfl) rfl rfl) ?_
          refine ss 46 rfl rfl (Ys_bslice (s := 5) (len := 1) (vs := [(0, .agg #[.int .i64 r_4.Num.A, .int .i64 r_4.Num.B, .int .i64 r_4.Num.C, .int .i64 r_4.Num.D, .int .i64 r_4.Exp])]) (cs := [.int .i64 r_4.Num.A, .int .i64 r_4.Num.B, .int .i64 r_4.Num.C, .int .i64 r_4.Num.D, .int .i64 r_4.Exp]) (zs := [.int .i64 0, .int .i64 0, .int .i64 0, .int .i64 0, .int .i64 0]) (m := 5) hS13 k_sl_24_44 k_sz_44_5 k_zc_44 rfl (mpc rfl mpn) rfl rfl rfl (by kernel_rfl) (by kernel_rfl) rfl) ?_
          rintro _ w_10 ⟨b3, rfl, hS16⟩
          have hS16 : ST w0 [] _ [⟨some ⟨b, 0, none⟩, 26, [.int .i64 0, .int .i64 0, .slice none 0 0], 3⟩, ⟨some ⟨b1, 0, none⟩, 26, [.int .i64 rows, .int .i64 cols, .slice B2 Cells1.length c2], 3⟩, ⟨B2, 44, (Cells1.flatMap enc_Dyadic), c2 * 5⟩, ⟨some ⟨b2, 0, none⟩, 44, [.int .i64 r_4.Num.A, .int .i64 r_4.Num.B, .int .i64 r_4.Num.C, .int .i64 r_4.Num.D, .int .i64 r_4.Exp], 5⟩, ⟨some ⟨b3, 0, none⟩, 44, ([r_4].flatMap enc_Dyadic), 1 * 5⟩] (Rf) := hS16
          obtain ⟨hap, hF6⟩ := chk_inv hF6
          refine ss 47 rfl rfl (Ys_append (s := 5) (by' := 40) (i := 2) (nn := Cells1.length) (c := c2) (k := 1) (len := (Cells1 ++ [r_4]).length) (B := B2) (xs := ([r_4].flatMap enc_Dyadic)) (cs' := ((Cells1 ++ [r_4]).flatMap enc_Dyadic)) hS16 k_sl_24_44 k_sz_44_5 k_by_44_40 k_zero_44 rfl (by decide) rfl rfl rfl rfl (fm_lenn (l := Cells1) enc_Dyadic_len rfl) rfl (hS16.cf (i := 4) rfl) (fm_lenn (l := [r_4]) enc_Dyadic_len rfl) (fm_one' (enc := enc_Dyadic) enc_Dyadic_one [r_4]) (by have := hap; omega) (by have := hap; simp only [maxLen]; omega) (fm_app _ _) (app_len (l := Cells1) (l' := [r_4]) rfl rfl)) ?_
          rintro _ w_11 ⟨B3, c3, rfl, hS17⟩
          have hS17 : ST w0 [] _ [⟨some ⟨b, 0, none⟩, 26, [.int .i64 0, .int .i64 0, .slice none 0 0], 3⟩, ⟨some ⟨b1, 0, none⟩, 26, [.int .i64 rows, .int .i64 cols, .slice B2 Cells1.length c2], 3⟩, ⟨B3, 44, ((Cells1 ++ [r_4]).flatMap enc_Dyadic), c3 * 5⟩, ⟨some ⟨b2, 0, none⟩, 44, [.int .i64 r_4.Num.A, .int .i64 r_4.Num.B, .int .i64 r_4.Num.C, .int .i64 r_4.Num.D, .int .i64 r_4.Exp], 5⟩, ⟨some ⟨b3, 0, none⟩, 44, ([r_4].flatMap enc_Dyadic), 1 * 5⟩] (Rf) := hS17
          refine sq 48 rfl rfl (Y_fieldAddr (B := some ⟨b1, 0, none⟩) (i := 0) (s := 0) k_fd_26_2_2_24 k_sz_24_1 rfl (hf1.get 8 3 rfl)) ?_
          refine ss0 rfl rfl (Ys_store (i := 1) (s := 1) (B := some ⟨b1, 0, none⟩) (T' := 26) (v := .slice B3 ((Cells1 ++ [r_4]).length) c3) (vs := [.slice B3 ((Cells1 ++ [r_4]).length) c3]) (k := 2) (cs' := [.int .i64 rows, .int .i64 cols, .slice B3 ((Cells1 ++ [r_4]).length) c3]) hS17 k_sz_24_1 rfl rfl rfl rfl rfl rfl rfl (Nat.le_of_ble_eq_true rfl) rfl rfl) ?_
          rintro _ w_12 ⟨rfl, hS18⟩
          have hS18 : ST w0 [] _ [⟨some ⟨b, 0, none⟩, 26, [.int .i64 0, .int .i64 0, .slice none 0 0], 3⟩, ⟨some ⟨b1, 0, none⟩, 26, [.int .i64 rows, .int .i64 cols, .slice B3 ((Cells1 ++ [r_4]).length) c3], 3⟩, ⟨B3, 44, ((Cells1 ++ [r_4]).flatMap enc_Dyadic), c3 * 5⟩, ⟨some ⟨b2, 0, none⟩, 44, [.int .i64 r_4.Num.A, .int .i64 r_4.Num.B, .int .i64 r_4.Num.C, .int .i64 r_4.Num.D, .int .i64 r_4.Exp], 5⟩, ⟨some ⟨b3, 0, none⟩, 44, ([r_4].flatMap enc_Dyadic), 1 * 5⟩] (Rf) := hS18
          refine rw_nil ?_
          refine cw_region ?_
          refine sq 49 rfl rfl (Y_add (k := .i64) (a := (i1 : Int)) (b := 1) rfl (hf1.get 30 8 rfl) rfl) ?_
          refine sq 30 rfl rfl (Y_move (v := .int .i64 (IntKind.i64.wrap ((i1 : Int) + 1))) rfl rfl) ?_
          refine rw_nil ?_
          obtain rfl := some_inj hF6
          exact ⟨k_3, Nat.lt_succ_self _, i1 + 1, (Cells1 ++ [r_4]), B3, c3, (FF.cons (hf1.get 1 0 rfl) (FF.cons (hf1.get 2 1 rfl) (FF.cons (hf1.get 6 2 rfl) (FF.cons (hf1.get 8 3 rfl) (FF.cons (hf1.get 9 4 rfl) (FF.cons (hf1.get 25 5 rfl) (FF.cons (hf1.get 26 6 rfl) (FF.cons (hf1.get 29 7 rfl) (FF.cons (congrArg (Value.int .i64) (wr_succ hlt3 hN1)) FF.nil))))))))), (hS18.sel [0, 1, 2] rfl rfl), (by omega), hL3⟩
      · skip
        obtain rfl : k_2 = 0 := by have h := of_decide_eq_false hlt2; omega
        refine cw_exit rfl ?_
        obtain rfl := some_inj hL2
        refine cw_region ?_
        refine sq 50 rfl rfl (Y_add (k := .i64) (a := (i : Int)) (b := 1) rfl (hf1.get 26 6 rfl) rfl) ?_
        refine sq 26 rfl rfl (Y_move (v := .int .i64 (IntKind.i64.wrap ((i : Int) + 1))) rfl rfl) ?_
        refine rw_nil ?_
        obtain rfl := some_inj hF4
        exact ⟨k_1, Nat.lt_succ_self _, i + 1, Cells1, B2, c2, (FF.cons (hf1.get 1 0 rfl) (FF.cons (hf1.get 2 1 rfl) (FF.cons (hf1.get 6 2 rfl) (FF.cons (hf1.get 8 3 rfl) (FF.cons (hf1.get 25 5 rfl) (FF.cons (congrArg (Value.int .i64) (wr_succ hlt1 hN)) FF.nil)))))), (hS10.sel [0, 1, 2] rfl rfl), (by omega), hL1⟩
    · skip
      obtain rfl : k_ = 0 := by have h := of_decide_eq_false hlt; omega
      refine cw_exit rfl ?_
      obtain rfl := some_inj hL
      refine cw_seq ?_
      refine cw_region ?_
      refine sq 51 rfl rfl (Y_loadA (B := some ⟨b1, 0, none⟩) (i := 0) (cs := [.int .i64 rows, .int .i64 cols, .slice B1 Cells.length c1]) (vs := [.int .i64 rows, .int .i64 cols, .slice B1 Cells.length c1]) k_ag_26 k_sz_26_3 rfl (hf.get 8 3 rfl) (hS8.cf (i := 1) rfl) rfl rfl) ?_
      refine ss0 rfl rfl (Ys_store (i := 0) (s := 3) (B := some ⟨b, 0, none⟩) (T' := 26) (v := .agg #[.int .i64 rows, .int .i64 cols, .slice B1 Cells.length c1]) (vs := [.int .i64 rows, .int .i64 cols, .slice B1 Cells.length c1]) (k := 0) (cs' := [.int .i64 rows, .int .i64 cols, .slice B1 Cells.length c1]) hS8 k_sz_26_3 rfl (hf.get 6 2 rfl) rfl rfl rfl rfl rfl (Nat.le_of_ble_eq_true rfl) rfl rfl) ?_
      rintro _ w_13 ⟨rfl, hS19⟩
      have hS19 : ST w0 [] _ [⟨some ⟨b, 0, none⟩, 26, [.int .i64 rows, .int .i64 cols, .slice B1 Cells.length c1], 3⟩, ⟨some ⟨b1, 0, none⟩, 26, [.int .i64 rows, .int .i64 cols, .slice B1 Cells.length c1], 3⟩, ⟨B1, 44, (Cells.flatMap enc_Dyadic), c1 * 5⟩] (Rf) := hS19
      refine sq 7 rfl rfl (Y_assign (v := .bool true) rfl rfl) ?_
      refine rw_nil ?_
      refine cw_ret ?_
      obtain ⟨rfl, rfl⟩ := pr2 (some_inj hF3)
      exact ret2 Try.results43 (v1 := .agg #[.int .i64 rows, .int .i64 cols, .slice B1 Cells.length c1]) (resAt_cellA (B := some ⟨b, 0, none⟩) (i := 0) (cs := [.int .i64 rows, .int .i64 cols, .slice B1 Cells.length c1]) (vs := [.int .i64 rows, .int .i64 cols, .slice B1 Cells.length c1]) (hf.get 6 2 rfl) k_ag_26 k_sz_26_3 (hS19.cf (i := 0) rfl) rfl rfl) (v2 := .bool true) (resAt_tmp rfl) ⟨B1, c1, rfl, (ST.subR (R' := []) (hS19.sel [2] rfl rfl) (fun _ h => by cases h))⟩

theorem c_impl_isCoef (n : Int)  (w0 : World)  (hS : ST w0 [] w0 [] []) {r_ : Bool} (hF : F_impl_isCoef n = some r_) :
    CV Try.prog 167 #[.int .i64 n] w0 (fun v w' => v = .bool r_ ∧ ST w0 [] w' [] []) := by
  unfold F_impl_isCoef at hF
  refine cv_of_cw 5 Try.func167 rfl Try.ntmps167 rfl ?_
  refine cw_seq ?_
  refine cw_region ?_
  refine sq 2 rfl rfl (Y_assign (v := .bool false) rfl rfl) ?_
  refine rw_nil ?_
  refine cw_seq ?_
  refine cw_region ?_
  refine sq 3 rfl rfl (Y_move (v := .int .i64 n) rfl rfl) ?_
  obtain ⟨r_1, hc, hF⟩ := bind_inv hF
  refine sc 4 rfl rfl (Yc_func (g := 82) (vs := [.int .i64 n, .int .i64 (-1000000000), .int .i64 1000000000]) k_call_82 rfl (mc rfl (mc rfl (mc rfl mn))) (c_impl_within n (-1000000000) 1000000000 _  (hS.inn0 [] rfl) hc)) ?_
  rintro _ w_ ⟨rfl, hd⟩
  have hS1 := hS.out00 hd
  refine sq 2 rfl rfl (Y_assign (v := .bool r_1) rfl rfl) ?_
  refine rw_nil ?_
  refine cw_ret ?_
  obtain rfl := some_inj hF
  exact ret1 Try.results167 (v1 := .bool r_1) (resAt_tmp rfl) ⟨rfl, (ST.subR (R' := []) (hS1.sel [] rfl rfl) (fun _ h => by cases h))⟩

theorem c_impl_IsValidRing (x : TRing)  (w0 : World)  (hS : ST w0 [] w0 [] []) {r_ : Bool} (hF : F_impl_IsValidRing x = some r_) :
    CV Try.prog 134 #[.agg #[.int .i64 x.A, .int .i64 x.B, .int .i64 x.C, .int .i64 x.D]] w0 (fun v w' => v = .bool r_ ∧ ST w0 [] w' [] []) := by
  unfold F_impl_IsValidRing at hF
  refine cv_of_cw 21 Try.func134 rfl Try.ntmps134 rfl ?_
  refine cw_seq ?_
  refine cw_region ?_
  refine ss 1 rfl rfl (Ys_box (T := 42) (v := .agg #[.int .i64 x.A, .int .i64 x.B, .int .i64 x.C, .int .i64 x.D]) (cs := [.int .i64 x.A, .int .i64 x.B, .int .i64 x.C, .int .i64 x.D]) (m := 4) hS rfl rfl rfl rfl) ?_
  rintro _ w_ ⟨b, rfl, hS1⟩
  refine sq 2 rfl rfl (Y_assign (v := .bool false) rfl rfl) ?_
  refine rw_nil ?_
  refine cw_seq ?_
  refine cw_region ?_
  refine sq 3 rfl rfl (Y_fieldAddr (B := some ⟨b, 0, none⟩) (i := 0) (s := 0) k_fd_42_0_0_3 k_sz_3_1 rfl rfl) ?_
  refine sq 4 rfl rfl (Y_load1 (B := some ⟨b, 0, none⟩) (i := 0) (cs := [.int .i64 x.A, .int .i64 x.B, .int .i64 x.C, .int .i64 x.D]) (v := .int .i64 x.A) k_sc_3 rfl rfl (hS1.cf (i := 0) rfl) rfl) ?_
  obtain ⟨r_1, hc, hF⟩ := bind_inv hF
  refine sc 5 rfl rfl (Yc_func (g := 167) (vs := [.int .i64 x.A]) k_call_167 rfl (mc rfl mn) (c_impl_isCoef x.A _  (hS1.inn0 [] rfl) hc)) ?_
  rintro _ w_1 ⟨rfl, hd⟩
  have hS2 := hS1.out00 hd
  refine sq 6 rfl rfl (Y_move (v := .bool r_1) rfl rfl) ?_
  refine sgq 7 (B := r_1) (v := pt (some ⟨b, 0, none⟩) 1) rfl rfl (wt_t (gd_of (t := 6) (by kernel_rfl) rfl)) (fun hg => (Y_fieldAddr (B := some ⟨b, 0, none⟩) (i := 0) (s := 0) k_fd_42_1_1_3 k_sz_3_1 rfl rfl)) ?_
  refine sgq 8 (B := r_1) (v := .int .i64 x.B) rfl rfl (wt_t (gd_of (t := 6) (by kernel_rfl) rfl)) (fun hg1 => (Y_load1 (B := some ⟨b, 0, none⟩) (i := 1) (cs := [.int .i64 x.A, .int .i64 x.B, .int .i64 x.C, .int .i64 x.D]) (v := .int .i64 x.B) k_sc_3 rfl (gv_of (B := r_1) (v := pt (some ⟨b, 0, none⟩) 1) hg1) (hS2.cf (i := 0) rfl) rfl)) ?_
  obtain ⟨r_2, hc1, hF⟩ := bind_inv hF
  refine sgc 9 (B := r_1) (v := .bool r_2) (F := hS2.fn) rfl rfl (wt_t (gd_of (t := 6) (by kernel_rfl) rfl)) hS2 (fun hg2 => (Yc_func (g := 167) (vs := [.int .i64 x.B]) k_call_167 rfl (mc (gv_of (B := r_1) (v := .int .i64 x.B) hg2) mn) (CV.mono (c_impl_isCoef x.B _  (hS2.inn0 [] rfl) (gb_inv hc1 hg2)) (by rintro _ _ ⟨rfl, h⟩; exact ⟨rfl, hS2.out00 h⟩)))) ?_
  rintro w_2 hS3
  have hS3 : ST _ _ w_2 _ _ := hS3
  refine sq 10 rfl rfl (Y_and (b := r_1) (z := r_2) rfl rfl rfl rfl) ?_
  refine sq 11 rfl rfl (Y_move (v := .bool (r_1 && r_2)) rfl rfl) ?_
  refine sgq 12 (B := (r_1 && r_2)) (v := pt (some ⟨b, 0, none⟩) 2) rfl rfl (wt_t (gd_of (t := 11) (by kernel_rfl) rfl)) (fun hg3 => (Y_fieldAddr (B := some ⟨b, 0, none⟩) (i := 0) (s := 0) k_fd_42_2_2_3 k_sz_3_1 rfl rfl)) ?_
  refine sgq 13 (B := (r_1 && r_2)) (v := .int .i64 x.C) rfl rfl (wt_t (gd_of (t := 11) (by kernel_rfl) rfl)) (fun hg4 => (Y_load1 (B := some ⟨b, 0, none⟩) (i := 2) (cs := [.int .i64 x.A, .int .i64 x.B, .int .i64 x.C, .int .i64 x.D]) (v := .int .i64 x.C) k_sc_3 rfl (gv_of (B := (r_1 && r_2)) (v := pt (some ⟨b, 0, none⟩) 2) hg4) (hS3.cf (i := 0) rfl) rfl)) ?_
  obtain ⟨r_3, hc2, hF⟩ := bind_inv hF
  refine sgc 14 (B := (r_1 && r_2)) (v := .bool r_3) (F := hS3.fn) rfl rfl (wt_t (gd_of (t := 11) (by kernel_rfl) rfl)) hS3 (fun hg5 => (Yc_func (g := 167) (vs := [.int .i64 x.C]) k_call_167 rfl (mc (gv_of (B := (r_1 && r_2)) (v := .int .i64 x.C) hg5) mn) (CV.mono (c_impl_isCoef x.C _  (hS3.inn0 [] rfl) (gb_inv hc2 hg5)) (by rintro _ _ ⟨rfl, h⟩; exact ⟨rfl, hS3.out00 h⟩)))) ?_
  rintro w_3 hS4
  have hS4 : ST _ _ w_3 _ _ := hS4
  refine sq 15 rfl rfl (Y_and (b := (r_1 && r_2)) (z := r_3) rfl rfl rfl rfl) ?_
  refine sq 16 rfl rfl (Y_move (v := .bool ((r_1 && r_2) && r_3)) rfl rfl) ?_
  refine sgq 17 (B := ((r_1 && r_2) && r_3)) (v := pt (some ⟨b, 0, none⟩) 3) rfl rfl (wt_t (gd_of (t := 16) (by kernel_rfl) rfl)) (fun hg6 => (Y_fieldAddr (B := some ⟨b, 0, none⟩) (i := 0) (s := 0) k_fd_42_3_3_3 k_sz_3_1 rfl rfl)) ?_
  refine sgq 18 (B := ((r_1 && r_2) && r_3)) (v := .int .i64 x.D) rfl rfl (wt_t (gd_of (t := 16) (by kernel_rfl) rfl)) (fun hg7 => (Y_load1 (B := some ⟨b, 0, none⟩) (i := 3) (cs := [.int .i64 x.A, .int .i64 x.B, .int .i64 x.C, .int .i64 x.D]) (v := .int .i64 x.D) k_sc_3 rfl (gv_of (B := ((r_1 && r_2) && r_3)) (v := pt (some ⟨b, 0, none⟩) 3) hg7) (hS4.cf (i := 0) rfl) rfl)) ?_
  obtain ⟨r_4, hc3, hF⟩ := bind_inv hF
  refine sgc 19 (B := ((r_1 && r_2) && r_3)) (v := .bool r_4) (F := hS4.fn) rfl rfl (wt_t (gd_of (t := 16) (by kernel_rfl) rfl)) hS4 (fun hg8 => (Yc_func (g := 167) (vs := [.int .i64 x.D]) k_call_167 rfl (mc (gv_of (B := ((r_1 && r_2) && r_3)) (v := .int .i64 x.D) hg8) mn) (CV.mono (c_impl_isCoef x.D _  (hS4.inn0 [] rfl) (gb_inv hc3 hg8)) (by rintro _ _ ⟨rfl, h⟩; exact ⟨rfl, hS4.out00 h⟩)))) ?_
  rintro w_4 hS5
  have hS5 : ST _ _ w_4 _ _ := hS5
  refine sq 20 rfl rfl (Y_and (b := ((r_1 && r_2) && r_3)) (z := r_4) rfl rfl rfl rfl) ?_
  refine sq 2 rfl rfl (Y_assign (v := .bool (((r_1 && r_2) && r_3) && r_4)) rfl rfl) ?_
  refine rw_nil ?_
  refine cw_ret ?_
  obtain rfl := some_inj hF
  exact ret1 Try.results134 (v1 := .bool (((r_1 && r_2) && r_3) && r_4)) (resAt_tmp rfl) ⟨rfl, (ST.subR (R' := []) (hS5.sel [] rfl rfl) (fun _ h => by cases h))⟩

theorem c_impl_MulOmega (x : TRing) (k_ : Int)  (w0 : World)  (hS : ST w0 [] w0 [] []) {r_ : TRing} {r_1 : Bool} (hF : F_impl_MulOmega x k_ = some (r_, r_1)) :
    CV Try.prog 100 #[.agg #[.int .i64 x.A, .int .i64 x.B, .int .i64 x.C, .int .i64 x.D], .int .i64 k_] w0 (fun v w' => v = .tuple #[.agg #[.int .i64 r_.A, .int .i64 r_.B, .int .i64 r_.C, .int .i64 r_.D], .bool r_1] ∧ ST w0 [] w' [] []) := by
  unfold F_impl_MulOmega at hF
  refine cv_of_cw 33 Try.func100 rfl Try.ntmps100 rfl ?_
  refine cw_seq ?_
  refine cw_region ?_
  refine ss 2 rfl rfl (Ys_box (T := 42) (v := .agg #[.int .i64 x.A, .int .i64 x.B, .int .i64 x.C, .int .i64 x.D]) (cs := [.int .i64 x.A, .int .i64 x.B, .int .i64 x.C, .int .i64 x.D]) (m := 4) hS rfl rfl rfl rfl) ?_
  rintro _ w_ ⟨b, rfl, hS1⟩
  refine ss 4 rfl rfl (Ys_alloc (T := 42) (cs := [.int .i64 0, .int .i64 0, .int .i64 0, .int .i64 0]) (m := 4) hS1 k_zero_42 rfl rfl rfl) ?_
  rintro _ w_1 ⟨b1, rfl, hS2⟩
  have hS2 : ST w0 [] _ [⟨some ⟨b, 0, none⟩, 42, [.int .i64 x.A, .int .i64 x.B, .int .i64 x.C, .int .i64 x.D], 4⟩, ⟨some ⟨b1, 0, none⟩, 42, [.int .i64 0, .int .i64 0, .int .i64 0, .int .i64 0], 4⟩] [] := hS2
  refine sq 5 rfl rfl (Y_assign (v := .bool false) rfl rfl) ?_
  refine rw_nil ?_
  refine cw_seq ?_
  refine cw_seq ?_
  refine cw_region ?_
  refine sq 6 rfl rfl (Y_move (v := .int .i64 k_) rfl rfl) ?_
  obtain ⟨r_2, hc, hF⟩ := bind_inv hF
  refine sc 7 rfl rfl (Yc_func (g := 82) (vs := [.int .i64 k_, .int .i64 (-1000), .int .i64 1000]) k_call_82 rfl (mc rfl (mc rfl (mc rfl mn))) (c_impl_within k_ (-1000) 1000 _  (hS2.inn0 [] rfl) hc)) ?_
  rintro _ w_2 ⟨rfl, hd⟩
  have hS3 := hS2.out00 hd
  have hS3 : ST w0 [] _ [⟨some ⟨b, 0, none⟩, 42, [.int .i64 x.A, .int .i64 x.B, .int .i64 x.C, .int .i64 x.D], 4⟩, ⟨some ⟨b1, 0, none⟩, 42, [.int .i64 0, .int .i64 0, .int .i64 0, .int .i64 0], 4⟩] [] := hS3
  refine sq 8 rfl rfl (Y_not (p := r_2) rfl rfl) ?_
  refine sq 9 rfl rfl (Y_move (v := .bool (!r_2)) rfl rfl) ?_
  refine sgq 10 (B := (!(!r_2))) (v := .agg #[.int .i64 x.A, .int .i64 x.B, .int .i64 x.C, .int .i64 x.D]) rfl rfl (wt_f (gd_of (t := 9) (by kernel_rfl) rfl)) (fun hg => (Y_loadA (B := some ⟨b, 0, none⟩) (i := 0) (cs := [.int .i64 x.A, .int .i64 x.B, .int .i64 x.C, .int .i64 x.D]) (vs := [.int .i64 x.A, .int .i64 x.B, .int .i64 x.C, .int .i64 x.D]) k_ag_42 k_sz_42_4 rfl rfl (hS3.cf (i := 0) rfl) rfl rfl)) ?_
  obtain ⟨r_3, hc1, hF⟩ := bind_inv hF
  refine sgc 11 (B := (!(!r_2))) (v := .bool r_3) (F := hS3.fn) rfl rfl (wt_f (gd_of (t := 9) (by kernel_rfl) rfl)) hS3 (fun hg1 => (Yc_func (g := 134) (vs := [.agg #[.int .i64 x.A, .int .i64 x.B, .int .i64 x.C, .int .i64 x.D]]) k_call_134 rfl (mc (gv_of (B := (!(!r_2))) (v := .agg #[.int .i64 x.A, .int .i64 x.B, .int .i64 x.C, .int .i64 x.D]) hg1) mn) (CV.mono (c_impl_IsValidRing x _  (hS3.inn0 [] rfl) (gb_inv hc1 hg1)) (by rintro _ _ ⟨rfl, h⟩; exact ⟨rfl, hS3.out00 h⟩)))) ?_
  rintro w_3 hS4
  have hS4 : ST _ _ w_3 _ _ := hS4
  refine sgq 12 (B := (!(!r_2))) (v := .bool (!r_3)) rfl rfl (wt_f (gd_of (t := 9) (by kernel_rfl) rfl)) (fun hg2 => (Y_not (p := r_3) rfl (gv_of (B := (!(!r_2))) (v := .bool r_3) hg2))) ?_
  refine sq 13 rfl rfl (Y_or (b := (!r_2)) (z := (!r_3)) rfl rfl rfl rfl) ?_
  refine rw_nil ?_
  refine cw_cond (b := ((!r_2) || (!r_3))) rfl (fun hb => ?_) (fun hb => ?_)
  · skip
    have hF1 := ct hF hb
    refine cw_seq ?_
    refine cw_region ?_
    refine sq 14 rfl rfl (Y_buildS (zs := [.int .i64 0, .int .i64 0, .int .i64 0, .int .i64 0]) (vs := []) (cs := [.int .i64 0, .int .i64 0, .int .i64 0, .int .i64 0]) k_pl_42 k_zero_42 rfl mpn rfl) ?_
    refine ss0 rfl rfl (Ys_store (i := 1) (s := 4) (B := some ⟨b1, 0, none⟩) (T' := 42) (v := .agg #[.int .i64 0, .int .i64 0, .int .i64 0, .int .i64 0]) (vs := [.int .i64 0, .int .i64 0, .int .i64 0, .int .i64 0]) (k := 0) (cs' := [.int .i64 0, .int .i64 0, .int .i64 0, .int .i64 0]) hS4 k_sz_42_4 rfl rfl rfl rfl rfl rfl rfl (Nat.le_of_ble_eq_true rfl) rfl rfl) ?_
    rintro _ w_4 ⟨rfl, hS5⟩
    have hS5 : ST w0 [] _ [⟨some ⟨b, 0, none⟩, 42, [.int .i64 x.A, .int .i64 x.B, .int .i64 x.C, .int .i64 x.D], 4⟩, ⟨some ⟨b1, 0, none⟩, 42, [.int .i64 0, .int .i64 0, .int .i64 0, .int .i64 0], 4⟩] [] := hS5
    refine sq 5 rfl rfl (Y_assign (v := .bool false) rfl rfl) ?_
    refine rw_nil ?_
    refine cw_ret ?_
    obtain ⟨rfl, rfl⟩ := pr2 (some_inj hF1)
    exact ret2 Try.results100 (v1 := .agg #[.int .i64 0, .int .i64 0, .int .i64 0, .int .i64 0]) (resAt_cellA (B := some ⟨b1, 0, none⟩) (i := 0) (cs := [.int .i64 0, .int .i64 0, .int .i64 0, .int .i64 0]) (vs := [.int .i64 0, .int .i64 0, .int .i64 0, .int .i64 0]) rfl k_ag_42 k_sz_42_4 (hS5.cf (i := 1) rfl) rfl rfl) (v2 := .bool false) (resAt_tmp rfl) ⟨rfl, (ST.subR (R' := []) (hS5.sel [] rfl rfl) (fun _ h => by cases h))⟩
  · skip
    have hF2 := cf' hF hb
    refine cw_skip ?_
    refine cw_seq ?_
    refine cw_seq ?_
    refine cw_region ?_
    refine sq 15 rfl rfl (Y_move (v := .int .i64 k_) rfl rfl) ?_
    refine sq 16 rfl rfl (Y_rem (k := .i64) (a := k_) (b := 8) rfl rfl rfl (by decide)) ?_
    refine sq 17 rfl rfl (Y_add (k := .i64) (a := (Int.tmod k_ 8)) (b := 8) rfl rfl rfl) ?_
    refine sq 18 rfl rfl (Y_rem (k := .i64) (a := (IntKind.i64.wrap ((Int.tmod k_ 8) + 8))) (b := 8) rfl rfl rfl (by decide)) ?_
    refine sq 19 rfl rfl (Y_move (v := .int .i64 0) rfl rfl) ?_
    refine rw_nil ?_
    obtain ⟨hN, hF2⟩ := chk_inv hF2
    obtain ⟨z, hz, hF3⟩ := bind_inv hF2
    refine cw_block ?_
    refine cw_loop (fun k f w => ∃ (i : Nat) (A : Int) (B : Int) (C : Int) (D : Int), FF f [(2, pt (some ⟨b, 0, none⟩) 0), (4, pt (some ⟨b1, 0, none⟩) 0), (18, .int .i64 (Int.tmod (IntKind.i64.wrap ((Int.tmod k_ 8) + 8)) 8)), (19, .int .i64 (i : Int))] ∧ ST w0 [] w [⟨some ⟨b, 0, none⟩, 42, [.int .i64 A, .int .i64 B, .int .i64 C, .int .i64 D], 4⟩, ⟨some ⟨b1, 0, none⟩, 42, [.int .i64 0, .int .i64 0, .int .i64 0, .int .i64 0], 4⟩] [] ∧ i + k = (Int.tmod (IntKind.i64.wrap ((Int.tmod k_ 8) + 8)) 8).toNat ∧ forN F_impl_MulOmega_l1 k i (A, B, C, D) = some z) ((Int.tmod (IntKind.i64.wrap ((Int.tmod k_ 8) + 8)) 8).toNat) ⟨0, x.A, x.B, x.C, x.D, (FF.cons rfl (FF.cons rfl (FF.cons rfl (FF.cons rfl FF.nil)))), (hS4.sel [0, 1] rfl rfl), Nat.zero_add _, hz⟩ ?_
    rintro k_1 f w ⟨i, A, B, C, D, hf, hS6, hik, hL⟩
    refine cw_seq ?_
    refine cw_region ?_
    refine sq 20 rfl rfl (Y_lt (k := .i64) (a := (i : Int)) (b := (Int.tmod (IntKind.i64.wrap ((Int.tmod k_ 8) + 8)) 8)) rfl (hf.get 19 3 rfl) (hf.get 18 2 rfl)) ?_
    refine rw_nil ?_
    refine cw_seq ?_
    refine cw_cond (b := (decide ((i : Int) < (Int.tmod (IntKind.i64.wrap ((Int.tmod k_ 8) + 8)) 8)))) rfl (fun hlt => ?_) (fun hlt => ?_)
    · skip
      have hlt1 : i < (Int.tmod (IntKind.i64.wrap ((Int.tmod k_ 8) + 8)) 8).toNat := by have h := of_decide_eq_true hlt; omega
      obtain ⟨k_2, rfl⟩ : ∃ k2, k_1 = k2 + 1 := ⟨k_1 - 1, by omega⟩
      obtain ⟨y, hb1, hL1⟩ := forN_go hL
      unfold F_impl_MulOmega_l1 at hb1
      refine cw_skip ?_
      refine cw_seq ?_
      refine cw_block ?_
      refine cw_region ?_
      refine sq 21 rfl rfl (Y_fieldAddr (B := some ⟨b, 0, none⟩) (i := 0) (s := 0) k_fd_42_3_3_3 k_sz_3_1 rfl (hf.get 2 0 rfl)) ?_
      refine sq 22 rfl rfl (Y_load1 (B := some ⟨b, 0, none⟩) (i := 3) (cs := [.int .i64 A, .int .i64 B, .int .i64 C, .int .i64 D]) (v := .int .i64 D) k_sc_3 rfl rfl (hS6.cf (i := 0) rfl) rfl) ?_
      refine sq 23 rfl rfl (Y_neg (k := .i64) (a := D) rfl rfl) ?_
      refine sq 24 rfl rfl (Y_fieldAddr (B := some ⟨b, 0, none⟩) (i := 0) (s := 0) k_fd_42_0_0_3 k_sz_3_1 rfl (hf.get 2 0 rfl)) ?_
      refine sq 25 rfl rfl (Y_load1 (B := some ⟨b, 0, none⟩) (i := 0) (cs := [.int .i64 A, .int .i64 B, .int .i64 C, .int .i64 D]) (v := .int .i64 A) k_sc_3 rfl rfl (hS6.cf (i := 0) rfl) rfl) ?_
      refine sq 26 rfl rfl (Y_fieldAddr (B := some ⟨b, 0, none⟩) (i := 0) (s := 0) k_fd_42_1_1_3 k_sz_3_1 rfl (hf.get 2 0 rfl)) ?_
      refine sq 27 rfl rfl (Y_load1 (B := some ⟨b, 0, none⟩) (i := 1) (cs := [.int .i64 A, .int .i64 B, .int .i64 C, .int .i64 D]) (v := .int .i64 B) k_sc_3 rfl rfl (hS6.cf (i := 0) rfl) rfl) ?_
      refine sq 28 rfl rfl (Y_fieldAddr (B := some ⟨b, 0, none⟩) (i := 0) (s := 0) k_fd_42_2_2_3 k_sz_3_1 rfl (hf.get 2 0 rfl)) ?_
      refine sq 29 rfl rfl (Y_load1 (B := some ⟨b, 0, none⟩) (i := 2) (cs := [.int .i64 A, .int .i64 B, .int .i64 C, .int .i64 D]) (v := .int .i64 C) k_sc_3 rfl rfl (hS6.cf (i := 0) rfl) rfl) ?_
      refine sq 30 rfl rfl (Y_buildS (zs := [.int .i64 0, .int .i64 0, .int .i64 0, .int .i64 0]) (vs := [(0, .int .i64 (IntKind.i64.wrap (-D))), (1, .int .i64 A), (2, .int .i64 B), (3, .int .i64 C)]) (cs := [.int .i64 (IntKind.i64.wrap (-D)), .int .i64 A, .int .i64 B, .int .i64 C]) k_pl_42 k_zero_42 rfl (mpc rfl (mpc rfl (mpc rfl (mpc rfl mpn)))) rfl) ?_
      refine ss0 rfl rfl (Ys_store (i := 0) (s := 4) (B := some ⟨b, 0, none⟩) (T' := 42) (v := .agg #[.int .i64 (IntKind.i64.wrap (-D)), .int .i64 A, .int .i64 B, .int .i64 C]) (vs := [.int .i64 (IntKind.i64.wrap (-D)), .int .i64 A, .int .i64 B, .int .i64 C]) (k := 0) (cs' := [.int .i64 (IntKind.i64.wrap (-D)), .int .i64 A, .int .i64 B, .int .i64 C]) hS6 k_sz_42_4 rfl (hf.get 2 0 rfl) rfl rfl rfl rfl rfl (Nat.le_of_ble_eq_true rfl) rfl rfl) ?_
      rintro _ w_5 ⟨rfl, hS7⟩
      have hS7 : ST w0 [] _ [⟨some ⟨b, 0, none⟩, 42, [.int .i64 (IntKind.i64.wrap (-D)), .int .i64 A, .int .i64 B, .int .i64 C], 4⟩, ⟨some ⟨b1, 0, none⟩, 42, [.int .i64 0, .int .i64 0, .int .i64 0, .int .i64 0], 4⟩] [] := hS7
      refine rw_nil ?_
      refine cw_region ?_
      refine sq 31 rfl rfl (Y_add (k := .i64) (a := (i : Int)) (b := 1) rfl (hf.get 19 3 rfl) rfl) ?_
      refine sq 19 rfl rfl (Y_move (v := .int .i64 (IntKind.i64.wrap ((i : Int) + 1))) rfl rfl) ?_
      refine rw_nil ?_
      obtain rfl := some_inj hb1
      exact ⟨k_2, Nat.lt_succ_self _, i + 1, (IntKind.i64.wrap (-D)), A, B, C, (FF.cons (hf.get 2 0 rfl) (FF.cons (hf.get 4 1 rfl) (FF.cons (hf.get 18 2 rfl) (FF.cons (congrArg (Value.int .i64) (wr_succ hlt1 hN)) FF.nil)))), (hS7.sel [0, 1] rfl rfl), (by omega), hL1⟩
    · skip
      obtain rfl : k_1 = 0 := by have h := of_decide_eq_false hlt; omega
      refine cw_exit rfl ?_
      obtain rfl := some_inj hL
      refine cw_seq ?_
      refine cw_region ?_
      refine sq 32 rfl rfl (Y_loadA (B := some ⟨b, 0, none⟩) (i := 0) (cs := [.int .i64 A, .int .i64 B, .int .i64 C, .int .i64 D]) (vs := [.int .i64 A, .int .i64 B, .int .i64 C, .int .i64 D]) k_ag_42 k_sz_42_4 rfl (hf.get 2 0 rfl) (hS6.cf (i := 0) rfl) rfl rfl) ?_
      refine ss0 rfl rfl (Ys_store (i := 1) (s := 4) (B := some ⟨b1, 0, none⟩) (T' := 42) (v := .agg #[.int .i64 A, .int .i64 B, .int .i64 C, .int .i64 D]) (vs := [.int .i64 A, .int .i64 B, .int .i64 C, .int .i64 D]) (k := 0) (cs' := [.int .i64 A, .int .i64 B, .int .i64 C, .int .i64 D]) hS6 k_sz_42_4 rfl (hf.get 4 1 rfl) rfl rfl rfl rfl rfl (Nat.le_of_ble_eq_true rfl) rfl rfl) ?_
      rintro _ w_6 ⟨rfl, hS8⟩
      have hS8 : ST w0 [] _ [⟨some ⟨b, 0, none⟩, 42, [.int .i64 A, .int .i64 B, .int .i64 C, .int .i64 D], 4⟩, ⟨some ⟨b1, 0, none⟩, 42, [.int .i64 A, .int .i64 B, .int .i64 C, .int .i64 D], 4⟩] [] := hS8
      refine sq 5 rfl rfl (Y_assign (v := .bool true) rfl rfl) ?_
      refine rw_nil ?_
      refine cw_ret ?_
      obtain ⟨rfl, rfl⟩ := pr2 (some_inj hF3)
      exact ret2 Try.results100 (v1 := .agg #[.int .i64 A, .int .i64 B, .int .i64 C, .int .i64 D]) (resAt_cellA (B := some ⟨b1, 0, none⟩) (i := 0) (cs := [.int .i64 A, .int .i64 B, .int .i64 C, .int .i64 D]) (vs := [.int .i64 A, .int .i64 B, .int .i64 C, .int .i64 D]) (hf.get 4 1 rfl) k_ag_42 k_sz_42_4 (hS8.cf (i := 1) rfl) rfl rfl) (v2 := .bool true) (resAt_tmp rfl) ⟨rfl, (ST.subR (R' := []) (hS8.sel [] rfl rfl) (fun _ h => by cases h))⟩

theorem c_impl_phase (k_ : Int)  (w0 : World)  (hS : ST w0 [] w0 [] []) {r_ : TDyadic} (hF : F_impl_phase k_ = some r_) :
    CV Try.prog 45 #[.int .i64 k_] w0 (fun v w' => v = .agg #[.int .i64 r_.Num.A, .int .i64 r_.Num.B, .int .i64 r_.Num.C, .int .i64 r_.Num.D, .int .i64 r_.Exp] ∧ ST w0 [] w' [] []) := by
  unfold F_impl_phase at hF
  refine cv_of_cw 13 Try.func45 rfl Try.ntmps45 rfl ?_
  refine cw_seq ?_
  refine cw_region ?_
  refine ss 2 rfl rfl (Ys_alloc (T := 44) (cs := [.int .i64 0, .int .i64 0, .int .i64 0, .int .i64 0, .int .i64 0]) (m := 5) hS k_zero_44 rfl rfl rfl) ?_
  rintro _ w_ ⟨b, rfl, hS1⟩
  refine rw_nil ?_
  refine cw_seq ?_
  refine cw_region ?_
  refine sq 6 rfl rfl (Y_buildS (zs := [.int .i64 0, .int .i64 0, .int .i64 0, .int .i64 0]) (vs := [(0, .int .i64 1)]) (cs := [.int .i64 1, .int .i64 0, .int .i64 0, .int .i64 0]) k_pl_42 k_zero_42 rfl (mpc rfl mpn) rfl) ?_
  refine sq 7 rfl rfl (Y_move (v := .int .i64 k_) rfl rfl) ?_
  obtain ⟨⟨r_1, r_2⟩, hc, hF⟩ := bind_inv hF
  refine sc 8 rfl rfl (Yc_func (g := 100) (vs := [.agg #[.int .i64 1, .int .i64 0, .int .i64 0, .int .i64 0], .int .i64 k_]) k_call_100 rfl (mc rfl (mc rfl mn)) (c_impl_MulOmega (TRing.mk 1 0 0 0) k_ _  (hS1.inn0 [] rfl) hc)) ?_
  rintro _ w_1 ⟨rfl, hd⟩
  have hS2 := hS1.out00 hd
  refine sq 5 rfl rfl (Y_move (v := .tuple #[.agg #[.int .i64 r_1.A, .int .i64 r_1.B, .int .i64 r_1.C, .int .i64 r_1.D], .bool r_2]) rfl rfl) ?_
  refine sq 9 rfl rfl (Y_extract (v := .agg #[.int .i64 r_1.A, .int .i64 r_1.B, .int .i64 r_1.C, .int .i64 r_1.D]) rfl rfl rfl) ?_
  refine sq 10 rfl rfl (Y_extract (v := .bool r_2) rfl rfl rfl) ?_
  refine ss 3 rfl rfl (Ys_alloc (T := 42) (cs := [.int .i64 0, .int .i64 0, .int .i64 0, .int .i64 0]) (m := 4) hS2 k_zero_42 rfl rfl rfl) ?_
  rintro _ w_2 ⟨b1, rfl, hS3⟩
  have hS3 : ST w0 [] _ [⟨some ⟨b, 0, none⟩, 44, [.int .i64 0, .int .i64 0, .int .i64 0, .int .i64 0, .int .i64 0], 5⟩, ⟨some ⟨b1, 0, none⟩, 42, [.int .i64 0, .int .i64 0, .int .i64 0, .int .i64 0], 4⟩] [] := hS3
  refine ss0 rfl rfl (Ys_store (i := 1) (s := 4) (B := some ⟨b1, 0, none⟩) (T' := 42) (v := .agg #[.int .i64 r_1.A, .int .i64 r_1.B, .int .i64 r_1.C, .int .i64 r_1.D]) (vs := [.int .i64 r_1.A, .int .i64 r_1.B, .int .i64 r_1.C, .int .i64 r_1.D]) (k := 0) (cs' := [.int .i64 r_1.A, .int .i64 r_1.B, .int .i64 r_1.C, .int .i64 r_1.D]) hS3 k_sz_42_4 rfl rfl rfl rfl rfl rfl rfl (Nat.le_of_ble_eq_true rfl) rfl rfl) ?_
  rintro _ w_3 ⟨rfl, hS4⟩
  have hS4 : ST w0 [] _ [⟨some ⟨b, 0, none⟩, 44, [.int .i64 0, .int .i64 0, .int .i64 0, .int .i64 0, .int .i64 0], 5⟩, ⟨some ⟨b1, 0, none⟩, 42, [.int .i64 r_1.A, .int .i64 r_1.B, .int .i64 r_1.C, .int .i64 r_1.D], 4⟩] [] := hS4
  refine sq 4 rfl rfl (Y_assign (v := .bool r_2) rfl rfl) ?_
  refine rw_nil ?_
  refine cw_seq ?_
  refine cw_region ?_
  refine sq 11 rfl rfl (Y_loadA (B := some ⟨b1, 0, none⟩) (i := 0) (cs := [.int .i64 r_1.A, .int .i64 r_1.B, .int .i64 r_1.C, .int .i64 r_1.D]) (vs := [.int .i64 r_1.A, .int .i64 r_1.B, .int .i64 r_1.C, .int .i64 r_1.D]) k_ag_42 k_sz_42_4 rfl rfl (hS4.cf (i := 1) rfl) rfl rfl) ?_
  refine sq 12 rfl rfl (Y_buildS (zs := [.int .i64 0, .int .i64 0, .int .i64 0, .int .i64 0, .int .i64 0]) (vs := [(0, .agg #[.int .i64 r_1.A, .int .i64 r_1.B, .int .i64 r_1.C, .int .i64 r_1.D])]) (cs := [.int .i64 r_1.A, .int .i64 r_1.B, .int .i64 r_1.C, .int .i64 r_1.D, .int .i64 0]) k_pl_44 k_zero_44 rfl (mpc rfl mpn) rfl) ?_
  refine ss0 rfl rfl (Ys_store (i := 0) (s := 5) (B := some ⟨b, 0, none⟩) (T' := 44) (v := .agg #[.int .i64 r_1.A, .int .i64 r_1.B, .int .i64 r_1.C, .int .i64 r_1.D, .int .i64 0]) (vs := [.int .i64 r_1.A, .int .i64 r_1.B, .int .i64 r_1.C, .int .i64 r_1.D, .int .i64 0]) (k := 0) (cs' := [.int .i64 r_1.A, .int .i64 r_1.B, .int .i64 r_1.C, .int .i64 r_1.D, .int .i64 0]) hS4 k_sz_44_5 rfl rfl rfl rfl rfl rfl rfl (Nat.le_of_ble_eq_true rfl) rfl rfl) ?_
  rintro _ w_4 ⟨rfl, hS5⟩
  have hS5 : ST w0 [] _ [⟨some ⟨b, 0, none⟩, 44, [.int .i64 r_1.A, .int .i64 r_1.B, .int .i64 r_1.C, .int .i64 r_1.D, .int .i64 0], 5⟩, ⟨some ⟨b1, 0, none⟩, 42, [.int .i64 r_1.A, .int .i64 r_1.B, .int .i64 r_1.C, .int .i64 r_1.D], 4⟩] [] := hS5
  refine rw_nil ?_
  refine cw_ret ?_
  obtain rfl := some_inj hF
  exact ret1 Try.results45 (v1 := .agg #[.int .i64 r_1.A, .int .i64 r_1.B, .int .i64 r_1.C, .int .i64 r_1.D, .int .i64 0]) (resAt_cellA (B := some ⟨b, 0, none⟩) (i := 0) (cs := [.int .i64 r_1.A, .int .i64 r_1.B, .int .i64 r_1.C, .int .i64 r_1.D, .int .i64 0]) (vs := [.int .i64 r_1.A, .int .i64 r_1.B, .int .i64 r_1.C, .int .i64 r_1.D, .int .i64 0]) rfl k_ag_44 k_sz_44_5 (hS5.cf (i := 0) rfl) rfl rfl) ⟨rfl, (ST.subR (R' := []) (hS5.sel [] rfl rfl) (fun _ h => by cases h))⟩
end Go.VK
