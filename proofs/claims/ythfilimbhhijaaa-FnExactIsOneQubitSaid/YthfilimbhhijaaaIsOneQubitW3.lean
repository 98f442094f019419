/- Walks: each Go function returns what its Lean function says. By program. -/
import Derived.Test.YthfilimbhhijaaaIsOneQubitFa
import Derived.Test.YthfilimbhhijaaaIsOneQubitW2
set_option linter.unusedVariables false
set_option maxRecDepth 100000
set_option maxHeartbeats 1000000
namespace Go.VK
open Go.RowKit
open Go.Proofs
attribute [local irreducible] CW RW RA CV Y Yw Yc Ys RetOf
attribute [local irreducible] F_laws_szDyadicS F_laws_szMatrix F_laws_toRing F_laws_toDyadic F_laws_toDyadicS F_laws_toMatrix F_laws_eqRing F_laws_eqDyadic F_laws_eqDyadicS F_laws_eqMatrix F_spec_l1In F_spec_l1All F_spec_l1Good F_spec_l1Even F_spec_l2Good F_spec_l1Has F_spec_l3Dim F_spec_l3Good F_spec_l1Root F_spec_l1Half F_spec_l2Low F_spec_l2C_ring F_spec_l1Mul F_spec_l2C_mul F_spec_l1Add F_spec_l2C_add F_spec_l2C_times F_spec_l1Conj F_spec_l2Conj F_spec_l3Adj F_spec_EqualMatrices F_spec_l1Turn F_spec_l2Power F_spec_l3Unit F_spec_IsUnitary F_spec_l9Good F_spec_IsOneQubit F_slices_IndexFunc_impl_Dyadic_impl_Dyadic F_slices_ContainsFunc_impl_Dyadic_impl_Dyadic F_impl_within F_impl_isDim F_impl_isCoef F_impl_IsValidRing F_impl_isEven F_impl_IsValidDyadic F_impl_IsValidMatrix_1 F_impl_IsValidMatrix F_impl_matrixOf F_impl_ringIf F_impl_Conjugate F_impl_ConjDyadic F_impl_Matrix_at F_impl_Adjoint_1 F_impl_Adjoint F_impl_MulRing F_impl_DivRootTwo F_impl_DyadicOf F_impl_MulDyadic F_impl_MulRootTwo F_impl_raised F_impl_combined F_impl_AddRing F_impl_AddDyadic F_impl_MulMatrix_1 F_impl_MulMatrix F_impl_whole F_impl_IdentityMatrix_1 F_impl_IdentityMatrix F_slices_Equal_impl_Dyadic_impl_Dyadic F_impl_EqualMatrices F_impl_IsUnitary F_impl_IsOneQubit F_laws_FnExactIsOneQubit
theorem c_impl_Conjugate (x : TRing)  (w0 : World)  (hS : ST w0 [] w0 [] []) {r_ : TRing} {r_1 : Bool} (hF : F_impl_Conjugate x = some (r_, r_1)) :
    CV Try.prog 200 #[.agg #[.int .i64 x.A, .int .i64 x.B, .int .i64 x.C, .int .i64 x.D]] w0 (fun v w' => v = .tuple #[.agg #[.int .i64 r_.A, .int .i64 r_.B, .int .i64 r_.C, .int .i64 r_.D], .bool r_1] ∧ ST w0 [] w' [] []) := by
  unfold F_impl_Conjugate at hF
  refine cv_of_cw 21 Try.func200 rfl Try.ntmps200 rfl ?_
  refine cw_seq ?_
  refine cw_region ?_
  refine ss 1 rfl rfl (Ys_box (T := 89) (v := .agg #[.int .i64 x.A, .int .i64 x.B, .int .i64 x.C, .int .i64 x.D]) (cs := [.int .i64 x.A, .int .i64 x.B, .int .i64 x.C, .int .i64 x.D]) (m := 4) hS rfl rfl rfl rfl) ?_
  rintro _ w_ ⟨b, rfl, hS1⟩
  refine ss 2 rfl rfl (Ys_alloc (T := 89) (cs := [.int .i64 0, .int .i64 0, .int .i64 0, .int .i64 0]) (m := 4) hS1 k_zero_89 rfl rfl rfl) ?_
  rintro _ w_1 ⟨b1, rfl, hS2⟩
  have hS2 : ST w0 [] _ [⟨some ⟨b, 0, none⟩, 89, [.int .i64 x.A, .int .i64 x.B, .int .i64 x.C, .int .i64 x.D], 4⟩, ⟨some ⟨b1, 0, none⟩, 89, [.int .i64 0, .int .i64 0, .int .i64 0, .int .i64 0], 4⟩] [] := hS2
  refine sq 3 rfl rfl (Y_assign (v := .bool false) rfl rfl) ?_
  refine rw_nil ?_
  refine cw_seq ?_
  refine cw_region ?_
  refine sq 4 rfl rfl (Y_fieldAddr (B := some ⟨b, 0, none⟩) (i := 0) (s := 0) k_fd_89_0_0_3 k_sz_3_1 rfl rfl) ?_
  refine sq 5 rfl rfl (Y_load1 (B := some ⟨b, 0, none⟩) (i := 0) (cs := [.int .i64 x.A, .int .i64 x.B, .int .i64 x.C, .int .i64 x.D]) (v := .int .i64 x.A) k_sc_3 rfl rfl (hS2.cf (i := 0) rfl) rfl) ?_
  refine sq 6 rfl rfl (Y_fieldAddr (B := some ⟨b, 0, none⟩) (i := 0) (s := 0) k_fd_89_3_3_3 k_sz_3_1 rfl rfl) ?_
  refine sq 7 rfl rfl (Y_load1 (B := some ⟨b, 0, none⟩) (i := 3) (cs := [.int .i64 x.A, .int .i64 x.B, .int .i64 x.C, .int .i64 x.D]) (v := .int .i64 x.D) k_sc_3 rfl rfl (hS2.cf (i := 0) rfl) rfl) ?_
  refine sq 8 rfl rfl (Y_neg (k := .i64) (a := x.D) rfl rfl) ?_
  refine sq 9 rfl rfl (Y_fieldAddr (B := some ⟨b, 0, none⟩) (i := 0) (s := 0) k_fd_89_2_2_3 k_sz_3_1 rfl rfl) ?_
  refine sq 10 rfl rfl (Y_load1 (B := some ⟨b, 0, none⟩) (i := 2) (cs := [.int .i64 x.A, .int .i64 x.B, .int .i64 x.C, .int .i64 x.D]) (v := .int .i64 x.C) k_sc_3 rfl rfl (hS2.cf (i := 0) rfl) rfl) ?_
  refine sq 11 rfl rfl (Y_neg (k := .i64) (a := x.C) rfl rfl) ?_
  refine sq 12 rfl rfl (Y_fieldAddr (B := some ⟨b, 0, none⟩) (i := 0) (s := 0) k_fd_89_1_1_3 k_sz_3_1 rfl rfl) ?_
  refine sq 13 rfl rfl (Y_load1 (B := some ⟨b, 0, none⟩) (i := 1) (cs := [.int .i64 x.A, .int .i64 x.B, .int .i64 x.C, .int .i64 x.D]) (v := .int .i64 x.B) k_sc_3 rfl rfl (hS2.cf (i := 0) rfl) rfl) ?_
  refine sq 14 rfl rfl (Y_neg (k := .i64) (a := x.B) rfl rfl) ?_
  refine sq 15 rfl rfl (Y_buildS (zs := [.int .i64 0, .int .i64 0, .int .i64 0, .int .i64 0]) (vs := [(0, .int .i64 x.A), (1, .int .i64 (IntKind.i64.wrap (-x.D))), (2, .int .i64 (IntKind.i64.wrap (-x.C))), (3, .int .i64 (IntKind.i64.wrap (-x.B)))]) (cs := [.int .i64 x.A, .int .i64 (IntKind.i64.wrap (-x.D)), .int .i64 (IntKind.i64.wrap (-x.C)), .int .i64 (IntKind.i64.wrap (-x.B))]) k_pl_89 k_zero_89 rfl (mpc rfl (mpc rfl (mpc rfl (mpc rfl mpn)))) rfl) ?_
  refine sq 16 rfl rfl (Y_loadA (B := some ⟨b, 0, none⟩) (i := 0) (cs := [.int .i64 x.A, .int .i64 x.B, .int .i64 x.C, .int .i64 x.D]) (vs := [.int .i64 x.A, .int .i64 x.B, .int .i64 x.C, .int .i64 x.D]) k_ag_89 k_sz_89_4 rfl rfl (hS2.cf (i := 0) rfl) rfl rfl) ?_
  refine ss 17 rfl rfl (Ys_bslice (s := 4) (len := 1) (vs := [(0, .agg #[.int .i64 x.A, .int .i64 x.B, .int .i64 x.C, .int .i64 x.D])]) (cs := [.int .i64 x.A, .int .i64 x.B, .int .i64 x.C, .int .i64 x.D]) (zs := [.int .i64 0, .int .i64 0, .int .i64 0, .int .i64 0]) (m := 4) hS2 k_sl_214_89 k_sz_89_4 k_zc_89 rfl (mpc rfl mpn) rfl rfl rfl rfl rfl rfl) ?_
  rintro _ w_2 ⟨b2, rfl, hS3⟩
  have hS3 : ST w0 [] _ [⟨some ⟨b, 0, none⟩, 89, [.int .i64 x.A, .int .i64 x.B, .int .i64 x.C, .int .i64 x.D], 4⟩, ⟨some ⟨b1, 0, none⟩, 89, [.int .i64 0, .int .i64 0, .int .i64 0, .int .i64 0], 4⟩, ⟨some ⟨b2, 0, none⟩, 89, ([x].flatMap enc_Ring), 1 * 4⟩] [] := hS3
  obtain ⟨⟨r_2, r_3⟩, hc, hF⟩ := bind_inv hF
  refine sc 18 rfl rfl (Yc_func (g := 202) (vs := [.agg #[.int .i64 x.A, .int .i64 (IntKind.i64.wrap (-x.D)), .int .i64 (IntKind.i64.wrap (-x.C)), .int .i64 (IntKind.i64.wrap (-x.B))], .slice (some ⟨b2, 0, none⟩) 1 1]) k_call_202 rfl (mc rfl (mc rfl mn)) (c_impl_ringIf (TRing.mk x.A (IntKind.i64.wrap (-x.D)) (IntKind.i64.wrap (-x.C)) (IntKind.i64.wrap (-x.B))) [x] (some ⟨b2, 0, none⟩) 1 1 _ rfl (hS3.inn [false, false, true] rfl [] rfl) hc)) ?_
  rintro _ w_3 ⟨rfl, hd⟩
  have hS4 := hS3.out [false, false, true] rfl hd
  have hS4 : ST w0 [] _ [⟨some ⟨b, 0, none⟩, 89, [.int .i64 x.A, .int .i64 x.B, .int .i64 x.C, .int .i64 x.D], 4⟩, ⟨some ⟨b1, 0, none⟩, 89, [.int .i64 0, .int .i64 0, .int .i64 0, .int .i64 0], 4⟩] [] := hS4
  refine sq 19 rfl rfl (Y_extract (v := .agg #[.int .i64 r_2.A, .int .i64 r_2.B, .int .i64 r_2.C, .int .i64 r_2.D]) rfl rfl rfl) ?_
  refine sq 20 rfl rfl (Y_extract (v := .bool r_3) rfl rfl rfl) ?_
  refine ss0 rfl rfl (Ys_store (i := 1) (s := 4) (B := some ⟨b1, 0, none⟩) (T' := 89) (v := .agg #[.int .i64 r_2.A, .int .i64 r_2.B, .int .i64 r_2.C, .int .i64 r_2.D]) (vs := [.int .i64 r_2.A, .int .i64 r_2.B, .int .i64 r_2.C, .int .i64 r_2.D]) (k := 0) (cs' := [.int .i64 r_2.A, .int .i64 r_2.B, .int .i64 r_2.C, .int .i64 r_2.D]) hS4 k_sz_89_4 rfl rfl rfl rfl rfl rfl rfl (Nat.le_of_ble_eq_true rfl) rfl rfl) ?_
  rintro _ w_4 ⟨rfl, hS5⟩
  have hS5 : ST w0 [] _ [⟨some ⟨b, 0, none⟩, 89, [.int .i64 x.A, .int .i64 x.B, .int .i64 x.C, .int .i64 x.D], 4⟩, ⟨some ⟨b1, 0, none⟩, 89, [.int .i64 r_2.A, .int .i64 r_2.B, .int .i64 r_2.C, .int .i64 r_2.D], 4⟩] [] := hS5
  refine sq 3 rfl rfl (Y_assign (v := .bool r_3) rfl rfl) ?_
  refine rw_nil ?_
  refine cw_ret ?_
  obtain ⟨rfl, rfl⟩ := pr2 (some_inj hF)
  exact ret2 Try.results200 (v1 := .agg #[.int .i64 r_2.A, .int .i64 r_2.B, .int .i64 r_2.C, .int .i64 r_2.D]) (resAt_cellA (B := some ⟨b1, 0, none⟩) (i := 0) (cs := [.int .i64 r_2.A, .int .i64 r_2.B, .int .i64 r_2.C, .int .i64 r_2.D]) (vs := [.int .i64 r_2.A, .int .i64 r_2.B, .int .i64 r_2.C, .int .i64 r_2.D]) rfl k_ag_89 k_sz_89_4 (hS5.cf (i := 1) rfl) rfl rfl) (v2 := .bool r_3) (resAt_tmp rfl) ⟨rfl, (ST.subR (R' := []) (hS5.sel [] rfl rfl) (fun _ h => by cases h))⟩

theorem c_impl_ConjDyadic (x : TDyadic)  (w0 : World)  (hS : ST w0 [] w0 [] []) {r_ : TDyadic} {r_1 : Bool} (hF : F_impl_ConjDyadic x = some (r_, r_1)) :
    CV Try.prog 157 #[.agg #[.int .i64 x.Num.A, .int .i64 x.Num.B, .int .i64 x.Num.C, .int .i64 x.Num.D, .int .i64 x.Exp]] w0 (fun v w' => v = .tuple #[.agg #[.int .i64 r_.Num.A, .int .i64 r_.Num.B, .int .i64 r_.Num.C, .int .i64 r_.Num.D, .int .i64 r_.Exp], .bool r_1] ∧ ST w0 [] w' [] []) := by
  unfold F_impl_ConjDyadic at hF
  refine cv_of_cw 20 Try.func157 rfl Try.ntmps157 rfl ?_
  refine cw_seq ?_
  refine cw_region ?_
  refine ss 1 rfl rfl (Ys_box (T := 91) (v := .agg #[.int .i64 x.Num.A, .int .i64 x.Num.B, .int .i64 x.Num.C, .int .i64 x.Num.D, .int .i64 x.Exp]) (cs := [.int .i64 x.Num.A, .int .i64 x.Num.B, .int .i64 x.Num.C, .int .i64 x.Num.D, .int .i64 x.Exp]) (m := 5) hS rfl rfl rfl rfl) ?_
  rintro _ w_ ⟨b, rfl, hS1⟩
  refine ss 2 rfl rfl (Ys_alloc (T := 91) (cs := [.int .i64 0, .int .i64 0, .int .i64 0, .int .i64 0, .int .i64 0]) (m := 5) hS1 k_zero_91 rfl rfl rfl) ?_
  rintro _ w_1 ⟨b1, rfl, hS2⟩
  have hS2 : ST w0 [] _ [⟨some ⟨b, 0, none⟩, 91, [.int .i64 x.Num.A, .int .i64 x.Num.B, .int .i64 x.Num.C, .int .i64 x.Num.D, .int .i64 x.Exp], 5⟩, ⟨some ⟨b1, 0, none⟩, 91, [.int .i64 0, .int .i64 0, .int .i64 0, .int .i64 0, .int .i64 0], 5⟩] [] := hS2
  refine sq 3 rfl rfl (Y_assign (v := .bool false) rfl rfl) ?_
  refine rw_nil ?_
  refine cw_seq ?_
  refine cw_seq ?_
  refine cw_region ?_
  refine sq 6 rfl rfl (Y_loadA (B := some ⟨b, 0, none⟩) (i := 0) (cs := [.int .i64 x.Num.A, .int .i64 x.Num.B, .int .i64 x.Num.C, .int .i64 x.Num.D, .int .i64 x.Exp]) (vs := [.int .i64 x.Num.A, .int .i64 x.Num.B, .int .i64 x.Num.C, .int .i64 x.Num.D, .int .i64 x.Exp]) k_ag_91 k_sz_91_5 rfl rfl (hS2.cf (i := 0) rfl) rfl rfl) ?_
  obtain ⟨r_2, hc, hF⟩ := bind_inv hF
  refine sc 7 rfl rfl (Yc_func (g := 134) (vs := [.agg #[.int .i64 x.Num.A, .int .i64 x.Num.B, .int .i64 x.Num.C, .int .i64 x.Num.D, .int .i64 x.Exp]]) k_call_134 rfl (mc rfl mn) (c_impl_IsValidDyadic x _  (hS2.inn0 [] rfl) hc)) ?_
  rintro _ w_2 ⟨rfl, hd⟩
  have hS3 := hS2.out00 hd
  have hS3 : ST w0 [] _ [⟨some ⟨b, 0, none⟩, 91, [.int .i64 x.Num.A, .int .i64 x.Num.B, .int .i64 x.Num.C, .int .i64 x.Num.D, .int .i64 x.Exp], 5⟩, ⟨some ⟨b1, 0, none⟩, 91, [.int .i64 0, .int .i64 0, .int .i64 0, .int .i64 0, .int .i64 0], 5⟩] [] := hS3
  refine sq 8 rfl rfl (Y_not (p := r_2) rfl rfl) ?_
  refine rw_nil ?_
  refine cw_cond (b := (!r_2)) rfl (fun hb => ?_) (fun hb => ?_)
  · skip
    have hF1 := ct hF hb
    refine cw_seq ?_
    refine cw_region ?_
    refine sq 9 rfl rfl (Y_buildS (zs := [.int .i64 0, .int .i64 0, .int .i64 0, .int .i64 0, .int .i64 0]) (vs := []) (cs := [.int .i64 0, .int .i64 0, .int .i64 0, .int .i64 0, .int .i64 0]) k_pl_91 k_zero_91 rfl mpn rfl) ?_
    refine ss0 rfl rfl (Ys_store (i := 1) (s := 5) (B := some ⟨b1, 0, none⟩) (T' := 91) (v := .agg #[.int .i64 0, .int .i64 0, .int .i64 0, .int .i64 0, .int .i64 0]) (vs := [.int .i64 0, .int .i64 0, .int .i64 0, .int .i64 0, .int .i64 0]) (k := 0) (cs' := [.int .i64 0, .int .i64 0, .int .i64 0, .int .i64 0, .int .i64 0]) hS3 k_sz_91_5 rfl rfl rfl rfl rfl rfl rfl (Nat.le_of_ble_eq_true rfl) rfl rfl) ?_
    rintro _ w_3 ⟨rfl, hS4⟩
    have hS4 : ST w0 [] _ [⟨some ⟨b, 0, none⟩, 91, [.int .i64 x.Num.A, .int .i64 x.Num.B, .int .i64 x.Num.C, .int .i64 x.Num.D, .int .i64 x.Exp], 5⟩, ⟨some ⟨b1, 0, none⟩, 91, [.int .i64 0, .int .i64 0, .int .i64 0, .int .i64 0, .int .i64 0], 5⟩] [] := hS4
    refine sq 3 rfl rfl (Y_assign (v := .bool false) rfl rfl) ?_
    refine rw_nil ?_
    refine cw_ret ?_
    obtain ⟨rfl, rfl⟩ := pr2 (some_inj hF1)
    exact ret2 Try.results157 (v1 := .agg #[.int .i64 0, .int .i64 0, .int .i64 0, .int .i64 0, .int .i64 0]) (resAt_cellA (B := some ⟨b1, 0, none⟩) (i := 0) (cs := [.int .i64 0, .int .i64 0, .int .i64 0, .int .i64 0, .int .i64 0]) (vs := [.int .i64 0, .int .i64 0, .int .i64 0, .int .i64 0, .int .i64 0]) rfl k_ag_91 k_sz_91_5 (hS4.cf (i := 1) rfl) rfl rfl) (v2 := .bool false) (resAt_tmp rfl) ⟨rfl, (ST.subR (R' := []) (hS4.sel [] rfl rfl) (fun _ h => by cases h))⟩
  · skip
    have hF2 := cf' hF hb
    refine cw_skip ?_
    refine cw_seq ?_
    refine cw_region ?_
    refine sq 11 rfl rfl (Y_fieldAddr (B := some ⟨b, 0, none⟩) (i := 0) (s := 3) k_fd_91_0_0_89 k_sz_89_4 rfl rfl) ?_
    refine sq 12 rfl rfl (Y_loadA (B := some ⟨b, 0, none⟩) (i := 0) (cs := [.int .i64 x.Num.A, .int .i64 x.Num.B, .int .i64 x.Num.C, .int .i64 x.Num.D, .int .i64 x.Exp]) (vs := [.int .i64 x.Num.A, .int .i64 x.Num.B, .int .i64 x.Num.C, .int .i64 x.Num.D]) k_ag_89 k_sz_89_4 rfl rfl (hS3.cf (i := 0) rfl) rfl rfl) ?_
    obtain ⟨⟨r_3, r_4⟩, hc1, hF2⟩ := bind_inv hF2
    refine sc 13 rfl rfl (Yc_func (g := 200) (vs := [.agg #[.int .i64 x.Num.A, .int .i64 x.Num.B, .int .i64 x.Num.C, .int .i64 x.Num.D]]) k_call_200 rfl (mc rfl mn) (c_impl_Conjugate x.Num _  (hS3.inn0 [] rfl) hc1)) ?_
    rintro _ w_4 ⟨rfl, hd1⟩
    have hS5 := hS3.out00 hd1
    have hS5 : ST w0 [] _ [⟨some ⟨b, 0, none⟩, 91, [.int .i64 x.Num.A, .int .i64 x.Num.B, .int .i64 x.Num.C, .int .i64 x.Num.D, .int .i64 x.Exp], 5⟩, ⟨some ⟨b1, 0, none⟩, 91, [.int .i64 0, .int .i64 0, .int .i64 0, .int .i64 0, .int .i64 0], 5⟩] [] := hS5
    refine sq 10 rfl rfl (Y_move (v := .tuple #[.agg #[.int .i64 r_3.A, .int .i64 r_3.B, .int .i64 r_3.C, .int .i64 r_3.D], .bool r_4]) rfl rfl) ?_
    refine sq 14 rfl rfl (Y_extract (v := .agg #[.int .i64 r_3.A, .int .i64 r_3.B, .int .i64 r_3.C, .int .i64 r_3.D]) rfl rfl rfl) ?_
    refine sq 15 rfl rfl (Y_extract (v := .bool r_4) rfl rfl rfl) ?_
    refine ss 4 rfl rfl (Ys_alloc (T := 89) (cs := [.int .i64 0, .int .i64 0, .int .i64 0, .int .i64 0]) (m := 4) hS5 k_zero_89 rfl rfl rfl) ?_
    rintro _ w_5 ⟨b2, rfl, hS6⟩
    have hS6 : ST w0 [] _ [⟨some ⟨b, 0, none⟩, 91, [.int .i64 x.Num.A, .int .i64 x.Num.B, .int .i64 x.Num.C, .int .i64 x.Num.D, .int .i64 x.Exp], 5⟩, ⟨some ⟨b1, 0, none⟩, 91, [.int .i64 0, .int .i64 0, .int .i64 0, .int .i64 0, .int .i64 0], 5⟩, ⟨some ⟨b2, 0, none⟩, 89, [.int .i64 0, .int .i64 0, .int .i64 0, .int .i64 0], 4⟩] [] := hS6
    refine ss0 rfl rfl (Ys_store (i := 2) (s := 4) (B := some ⟨b2, 0, none⟩) (T' := 89) (v := .agg #[.int .i64 r_3.A, .int .i64 r_3.B, .int .i64 r_3.C, .int .i64 r_3.D]) (vs := [.int .i64 r_3.A, .int .i64 r_3.B, .int .i64 r_3.C, .int .i64 r_3.D]) (k := 0) (cs' := [.int .i64 r_3.A, .int .i64 r_3.B, .int .i64 r_3.C, .int .i64 r_3.D]) hS6 k_sz_89_4 rfl rfl rfl rfl rfl rfl rfl (Nat.le_of_ble_eq_true rfl) rfl rfl) ?_
    rintro _ w_6 ⟨rfl, hS7⟩
    have hS7 : ST w0 [] _ [⟨some ⟨b, 0, none⟩, 91, [.int .i64 x.Num.A, .int .i64 x.Num.B, .int .i64 x.Num.C, .int .i64 x.Num.D, .int .i64 x.Exp], 5⟩, ⟨some ⟨b1, 0, none⟩, 91, [.int .i64 0, .int .i64 0, .int .i64 0, .int .i64 0, .int .i64 0], 5⟩, ⟨some ⟨b2, 0, none⟩, 89, [.int .i64 r_3.A, .int .i64 r_3.B, .int .i64 r_3.C, .int .i64 r_3.D], 4⟩] [] := hS7
    refine sq 5 rfl rfl (Y_assign (v := .bool r_4) rfl rfl) ?_
    refine rw_nil ?_
    refine cw_seq ?_
    refine cw_region ?_
    refine sq 16 rfl rfl (Y_loadA (B := some ⟨b2, 0, none⟩) (i := 0) (cs := [.int .i64 r_3.A, .int .i64 r_3.B, .int .i64 r_3.C, .int .i64 r_3.D]) (vs := [.int .i64 r_3.A, .int .i64 r_3.B, .int .i64 r_3.C, .int .i64 r_3.D]) k_ag_89 k_sz_89_4 rfl rfl (hS7.cf (i := 2) rfl) rfl rfl) ?_
    refine sq 17 rfl rfl (Y_fieldAddr (B := some ⟨b, 0, none⟩) (i := 0) (s := 0) k_fd_91_1_4_3 k_sz_3_1 rfl rfl) ?_
    refine sq 18 rfl rfl (Y_load1 (B := some ⟨b, 0, none⟩) (i := 4) (cs := [.int .i64 x.Num.A, .int .i64 x.Num.B, .int .i64 x.Num.C, .int .i64 x.Num.D, .int .i64 x.Exp]) (v := .int .i64 x.Exp) k_sc_3 rfl rfl (hS7.cf (i := 0) rfl) rfl) ?_
    refine sq 19 rfl rfl (Y_buildS (zs := [.int .i64 0, .int .i64 0, .int .i64 0, .int .i64 0, .int .i64 0]) (vs := [(0, .agg #[.int .i64 r_3.A, .int .i64 r_3.B, .int .i64 r_3.C, .int .i64 r_3.D]), (1, .int .i64 x.Exp)]) (cs := [.int .i64 r_3.A, .int .i64 r_3.B, .int .i64 r_3.C, .int .i64 r_3.D, .int .i64 x.Exp]) k_pl_91 k_zero_91 rfl (mpc rfl (mpc rfl mpn)) rfl) ?_
    refine ss0 rfl rfl (Ys_store (i := 1) (s := 5) (B := some ⟨b1, 0, none⟩) (T' := 91) (v := .agg #[.int .i64 r_3.A, .int .i64 r_3.B, .int .i64 r_3.C, .int .i64 r_3.D, .int .i64 x.Exp]) (vs := [.int .i64 r_3.A, .int .i64 r_3.B, .int .i64 r_3.C, .int .i64 r_3.D, .int .i64 x.Exp]) (k := 0) (cs' := [.int .i64 r_3.A, .int .i64 r_3.B, .int .i64 r_3.C, .int .i64 r_3.D, .int .i64 x.Exp]) hS7 k_sz_91_5 rfl rfl rfl rfl rfl rfl rfl (Nat.le_of_ble_eq_true rfl) rfl rfl) ?_
    rintro _ w_7 ⟨rfl, hS8⟩
    have hS8 : ST w0 [] _ [⟨some ⟨b, 0, none⟩, 91, [.int .i64 x.Num.A, .int .i64 x.Num.B, .int .i64 x.Num.C, .int .i64 x.Num.D, .int .i64 x.Exp], 5⟩, ⟨some ⟨b1, 0, none⟩, 91, [.int .i64 r_3.A, .int .i64 r_3.B, .int .i64 r_3.C, .int .i64 r_3.D, .int .i64 x.Exp], 5⟩, ⟨some ⟨b2, 0, none⟩, 89, [.int .i64 r_3.A, .int .i64 r_3.B, .int .i64 r_3.C, .int .i64 r_3.D], 4⟩] [] := hS8
    refine sq 3 rfl rfl (Y_assign (v := .bool true) rfl rfl) ?_
    refine rw_nil ?_
    refine cw_ret ?_
    obtain ⟨rfl, rfl⟩ := pr2 (some_inj hF2)
    exact ret2 Try.results157 (v1 := .agg #[.int .i64 r_3.A, .int .i64 r_3.B, .int .i64 r_3.C, .int .i64 r_3.D, .int .i64 x.Exp]) (resAt_cellA (B := some ⟨b1, 0, none⟩) (i := 0) (cs := [.int .i64 r_3.A, .int .i64 r_3.B, .int .i64 r_3.C, .int .i64 r_3.D, .int .i64 x.Exp]) (vs := [.int .i64 r_3.A, .int .i64 r_3.B, .int .i64 r_3.C, .int .i64 r_3.D, .int .i64 x.Exp]) rfl k_ag_91 k_sz_91_5 (hS8.cf (i := 1) rfl) rfl rfl) (v2 := .bool true) (resAt_tmp rfl) ⟨rfl, (ST.subR (R' := []) (hS8.sel [] rfl rfl) (fun _ h => by cases h))⟩

theorem c_impl_Matrix_at (m : TMatrix) (i : Int) (j : Int) (B : Option Addr) (c n : Nat) (w0 : World) (hn : m.Cells.length = n) (hS : ST w0 [] w0 [] [⟨B, (m.Cells.flatMap enc_Dyadic)⟩]) {r_ : TDyadic} (hF : F_impl_Matrix_at m i j = some r_) :
    CV Try.prog 158 #[.agg #[.int .i64 m.Rows, .int .i64 m.Cols, .slice B n c], .int .i64 i, .int .i64 j] w0 (fun v w' => v = .agg #[.int .i64 r_.Num.A, .int .i64 r_.Num.B, .int .i64 r_.Num.C, .int .i64 r_.Num.D, .int .i64 r_.Exp] ∧ ST w0 [] w' [] []) := by
  subst hn
  unfold F_impl_Matrix_at at hF
  refine cv_of_cw 17 Try.func158 rfl Try.ntmps158 rfl ?_
  refine cw_seq ?_
  refine cw_region ?_
  refine ss 3 rfl rfl (Ys_box (T := 62) (v := .agg #[.int .i64 m.Rows, .int .i64 m.Cols, .slice B m.Cells.length c]) (cs := [.int .i64 m.Rows, .int .i64 m.Cols, .slice B m.Cells.length c]) (m := 3) hS rfl rfl rfl rfl) ?_
  rintro _ w_ ⟨b, rfl, hS1⟩
  refine ss 6 rfl rfl (Ys_alloc (T := 91) (cs := [.int .i64 0, .int .i64 0, .int .i64 0, .int .i64 0, .int .i64 0]) (m := 5) hS1 k_zero_91 rfl rfl rfl) ?_
  rintro _ w_1 ⟨b1, rfl, hS2⟩
  have hS2 : ST w0 [] _ [⟨some ⟨b, 0, none⟩, 62, [.int .i64 m.Rows, .int .i64 m.Cols, .slice B m.Cells.length c], 3⟩, ⟨some ⟨b1, 0, none⟩, 91, [.int .i64 0, .int .i64 0, .int .i64 0, .int .i64 0, .int .i64 0], 5⟩] [⟨B, (m.Cells.flatMap enc_Dyadic)⟩] := hS2
  refine rw_nil ?_
  refine cw_seq ?_
  refine cw_region ?_
  refine sq 7 rfl rfl (Y_fieldAddr (B := some ⟨b, 0, none⟩) (i := 0) (s := 0) k_fd_62_2_2_27 k_sz_27_1 rfl rfl) ?_
  refine sq 8 rfl rfl (Y_load1 (B := some ⟨b, 0, none⟩) (i := 2) (cs := [.int .i64 m.Rows, .int .i64 m.Cols, .slice B m.Cells.length c]) (v := .slice B m.Cells.length c) k_sc_27 rfl rfl (hS2.cf (i := 0) rfl) rfl) ?_
  refine sq 9 rfl rfl (Y_move (v := .int .i64 i) rfl rfl) ?_
  refine sq 10 rfl rfl (Y_fieldAddr (B := some ⟨b, 0, none⟩) (i := 0) (s := 0) k_fd_62_1_1_3 k_sz_3_1 rfl rfl) ?_
  refine sq 11 rfl rfl (Y_load1 (B := some ⟨b, 0, none⟩) (i := 1) (cs := [.int .i64 m.Rows, .int .i64 m.Cols, .slice B m.Cells.length c]) (v := .int .i64 m.Cols) k_sc_3 rfl rfl (hS2.cf (i := 0) rfl) rfl) ?_
  refine sq 12 rfl rfl (Y_mul (k := .i64) (a := i) (b := m.Cols) rfl rfl rfl) ?_
  refine sq 13 rfl rfl (Y_move (v := .int .i64 j) rfl rfl) ?_
  refine sq 14 rfl rfl (Y_add (k := .i64) (a := (IntKind.i64.wrap (i * m.Cols))) (b := j) rfl rfl rfl) ?_
  obtain ⟨x, hx, hF⟩ := bind_inv hF
  refine sq 15 rfl rfl (Y_index (B := B) (m := m.Cells.length) (c := c) (k := .i64) (i := (IntKind.i64.wrap ((IntKind.i64.wrap (i * m.Cols)) + j))) k_sl_27_91 k_sz_91_5 rfl rfl rfl (gi_isSome enc_Dyadic_len rfl (hS2.rf (i := 0) rfl) hx) (getI_nn hx) (getI_ltI hx rfl)) ?_
  refine sq 16 rfl rfl (Y_loadA (B := B) (i := (IntKind.i64.wrap ((IntKind.i64.wrap (i * m.Cols)) + j)).toNat * 5) (cs := (m.Cells.flatMap enc_Dyadic)) (vs := [.int .i64 x.Num.A, .int .i64 x.Num.B, .int .i64 x.Num.C, .int .i64 x.Num.D, .int .i64 x.Exp]) k_ag_91 k_sz_91_5 rfl rfl (hS2.rf (i := 0) rfl) (enc_Dyadic_len x) (gi_seg enc_Dyadic_len hx)) ?_
  refine ss0 rfl rfl (Ys_store (i := 1) (s := 5) (B := some ⟨b1, 0, none⟩) (T' := 91) (v := .agg #[.int .i64 x.Num.A, .int .i64 x.Num.B, .int .i64 x.Num.C, .int .i64 x.Num.D, .int .i64 x.Exp]) (vs := [.int .i64 x.Num.A, .int .i64 x.Num.B, .int .i64 x.Num.C, .int .i64 x.Num.D, .int .i64 x.Exp]) (k := 0) (cs' := [.int .i64 x.Num.A, .int .i64 x.Num.B, .int .i64 x.Num.C, .int .i64 x.Num.D, .int .i64 x.Exp]) hS2 k_sz_91_5 rfl rfl rfl rfl rfl rfl rfl (Nat.le_of_ble_eq_true rfl) rfl rfl) ?_
  rintro _ w_2 ⟨rfl, hS3⟩
  have hS3 : ST w0 [] _ [⟨some ⟨b, 0, none⟩, 62, [.int .i64 m.Rows, .int .i64 m.Cols, .slice B m.Cells.length c], 3⟩, ⟨some ⟨b1, 0, none⟩, 91, [.int .i64 x.Num.A, .int .i64 x.Num.B, .int .i64 x.Num.C, .int .i64 x.Num.D, .int .i64 x.Exp], 5⟩] [⟨B, (m.Cells.flatMap enc_Dyadic)⟩] := hS3
  refine rw_nil ?_
  refine cw_ret ?_
  obtain rfl := some_inj hF
  exact ret1 Try.results158 (v1 := .agg #[.int .i64 x.Num.A, .int .i64 x.Num.B, .int .i64 x.Num.C, .int .i64 x.Num.D, .int .i64 x.Exp]) (resAt_cellA (B := some ⟨b1, 0, none⟩) (i := 0) (cs := [.int .i64 x.Num.A, .int .i64 x.Num.B, .int .i64 x.Num.C, .int .i64 x.Num.D, .int .i64 x.Exp]) (vs := [.int .i64 x.Num.A, .int .i64 x.Num.B, .int .i64 x.Num.C, .int .i64 x.Num.D, .int .i64 x.Exp]) rfl k_ag_91 k_sz_91_5 (hS3.cf (i := 1) rfl) rfl rfl) ⟨rfl, (ST.subR (R' := []) (hS3.sel [] rfl rfl) (fun _ h => by cases h))⟩

theorem c_impl_Adjoint_1 (i : Int) (j : Int) (p : TMatrix) (B : Option Addr) (B1 : Option Addr) (c n : Nat) (w0 : World) (hn : p.Cells.length = n) (hS : ST w0 [] w0 [] [⟨B, [.int .i64 p.Rows, .int .i64 p.Cols, .slice B1 p.Cells.length c]⟩, ⟨B1, (p.Cells.flatMap enc_Dyadic)⟩]) {r_ : TDyadic} {r_1 : Bool} (hF : F_impl_Adjoint_1 i j p = some (r_, r_1)) :
    CV Try.prog 156 #[.int .i64 i, .int .i64 j, pt B 0] w0 (fun v w' => v = .tuple #[.agg #[.int .i64 r_.Num.A, .int .i64 r_.Num.B, .int .i64 r_.Num.C, .int .i64 r_.Num.D, .int .i64 r_.Exp], .bool r_1] ∧ ST w0 [] w' [] []) := by
  subst hn
  unfold F_impl_Adjoint_1 at hF
  refine cv_of_cw 14 Try.func156 rfl Try.ntmps156 rfl ?_
  refine cw_seq ?_
  refine cw_region ?_
  refine ss 5 rfl rfl (Ys_alloc (T := 91) (cs := [.int .i64 0, .int .i64 0, .int .i64 0, .int .i64 0, .int .i64 0]) (m := 5) hS k_zero_91 rfl rfl rfl) ?_
  rintro _ w_ ⟨b, rfl, hS1⟩
  refine sq 6 rfl rfl (Y_assign (v := .bool false) rfl rfl) ?_
  refine rw_nil ?_
  refine cw_seq ?_
  refine cw_region ?_
  refine sq 7 rfl rfl (Y_loadA (B := B) (i := 0) (cs := [.int .i64 p.Rows, .int .i64 p.Cols, .slice B1 p.Cells.length c]) (vs := [.int .i64 p.Rows, .int .i64 p.Cols, .slice B1 p.Cells.length c]) k_ag_62 k_sz_62_3 rfl rfl (hS1.rf (i := 0) rfl) rfl rfl) ?_
  refine sq 8 rfl rfl (Y_move (v := .int .i64 j) rfl rfl) ?_
  refine sq 9 rfl rfl (Y_move (v := .int .i64 i) rfl rfl) ?_
  obtain ⟨r_2, hc, hF⟩ := bind_inv hF
  refine sc 10 rfl rfl (Yc_func (g := 158) (vs := [.agg #[.int .i64 p.Rows, .int .i64 p.Cols, .slice B1 p.Cells.length c], .int .i64 j, .int .i64 i]) k_call_158 rfl (mc rfl (mc rfl (mc rfl mn))) (c_impl_Matrix_at p j i B1 c p.Cells.length _ rfl (hS1.inn0 [(true, 1)] rfl) hc)) ?_
  rintro _ w_1 ⟨rfl, hd⟩
  have hS2 := hS1.out00 hd
  obtain ⟨⟨r_3, r_4⟩, hc1, hF⟩ := bind_inv hF
  refine sc 11 rfl rfl (Yc_func (g := 157) (vs := [.agg #[.int .i64 r_2.Num.A, .int .i64 r_2.Num.B, .int .i64 r_2.Num.C, .int .i64 r_2.Num.D, .int .i64 r_2.Exp]]) k_call_157 rfl (mc rfl mn) (c_impl_ConjDyadic r_2 _  (hS2.inn0 [] rfl) hc1)) ?_
  rintro _ w_2 ⟨rfl, hd1⟩
  have hS3 := hS2.out00 hd1
  refine sq 12 rfl rfl (Y_extract (v := .agg #[.int .i64 r_3.Num.A, .int .i64 r_3.Num.B, .int .i64 r_3.Num.C, .int .i64 r_3.Num.D, .int .i64 r_3.Exp]) rfl rfl rfl) ?_
  refine sq 13 rfl rfl (Y_extract (v := .bool r_4) rfl rfl rfl) ?_
  refine ss0 rfl rfl (Ys_store (i := 0) (s := 5) (B := some ⟨b, 0, none⟩) (T' := 91) (v := .agg #[.int .i64 r_3.Num.A, .int .i64 r_3.Num.B, .int .i64 r_3.Num.C, .int .i64 r_3.Num.D, .int .i64 r_3.Exp]) (vs := [.int .i64 r_3.Num.A, .int .i64 r_3.Num.B, .int .i64 r_3.Num.C, .int .i64 r_3.Num.D, .int .i64 r_3.Exp]) (k := 0) (cs' := [.int .i64 r_3.Num.A, .int .i64 r_3.Num.B, .int .i64 r_3.Num.C, .int .i64 r_3.Num.D, .int .i64 r_3.Exp]) hS3 k_sz_91_5 rfl rfl rfl rfl rfl rfl rfl (Nat.le_of_ble_eq_true rfl) rfl rfl) ?_
  rintro _ w_3 ⟨rfl, hS4⟩
  refine sq 6 rfl rfl (Y_assign (v := .bool r_4) rfl rfl) ?_
  refine rw_nil ?_
  refine cw_ret ?_
  obtain ⟨rfl, rfl⟩ := pr2 (some_inj hF)
  exact ret2 Try.results156 (v1 := .agg #[.int .i64 r_3.Num.A, .int .i64 r_3.Num.B, .int .i64 r_3.Num.C, .int .i64 r_3.Num.D, .int .i64 r_3.Exp]) (resAt_cellA (B := some ⟨b, 0, none⟩) (i := 0) (cs := [.int .i64 r_3.Num.A, .int .i64 r_3.Num.B, .int .i64 r_3.Num.C, .int .i64 r_3.Num.D, .int .i64 r_3.Exp]) (vs := [.int .i64 r_3.Num.A, .int .i64 r_3.Num.B, .int .i64 r_3.Num.C, .int .i64 r_3.Num.D, .int .i64 r_3.Exp]) rfl k_ag_91 k_sz_91_5 (hS4.cf (i := 0) rfl) rfl rfl) (v2 := .bool r_4) (resAt_tmp rfl) ⟨rfl, (ST.subR (R' := []) (hS4.sel [] rfl rfl) (fun _ h => by cases h))⟩

theorem c_impl_Adjoint (m : TMatrix) (B : Option Addr) (c n : Nat) (w0 : World) (hn : m.Cells.length = n) (hS : ST w0 [] w0 [] [⟨B, (m.Cells.flatMap enc_Dyadic)⟩]) {r_ : TMatrix} {r_1 : Bool} (hF : F_impl_Adjoint m = some (r_, r_1)) :
    CV Try.prog 100 #[.agg #[.int .i64 m.Rows, .int .i64 m.Cols, .slice B n c]] w0 (fun v w' => ∃ (B1 : Option Addr) (c1 : Nat), v = .tuple #[.agg #[.int .i64 r_.Rows, .int .i64 r_.Cols, .slice B1 r_.Cells.length c1], .bool r_1] ∧ ST w0 [] w' [⟨B1, 91, (r_.Cells.flatMap enc_Dyadic), c1 * 5⟩] []) := by
  subst hn
  unfold F_impl_Adjoint at hF
  refine cv_of_cw 16 Try.func100 rfl Try.ntmps100 rfl ?_
  refine cw_seq ?_
  refine cw_region ?_
  refine ss 1 rfl rfl (Ys_box (T := 62) (v := .agg #[.int .i64 m.Rows, .int .i64 m.Cols, .slice B m.Cells.length c]) (cs := [.int .i64 m.Rows, .int .i64 m.Cols, .slice B m.Cells.length c]) (m := 3) hS rfl rfl rfl rfl) ?_
  rintro _ w_ ⟨b, rfl, hS1⟩
  refine ss 2 rfl rfl (Ys_alloc (T := 62) (cs := [.int .i64 0, .int .i64 0, .slice none 0 0]) (m := 3) hS1 k_zero_62 rfl rfl rfl) ?_
  rintro _ w_1 ⟨b1, rfl, hS2⟩
  have hS2 : ST w0 [] _ [⟨some ⟨b, 0, none⟩, 62, [.int .i64 m.Rows, .int .i64 m.Cols, .slice B m.Cells.length c], 3⟩, ⟨some ⟨b1, 0, none⟩, 62, [.int .i64 0, .int .i64 0, .slice none 0 0], 3⟩] [⟨B, (m.Cells.flatMap enc_Dyadic)⟩] := hS2
  refine sq 3 rfl rfl (Y_assign (v := .bool false) rfl rfl) ?_
  refine rw_nil ?_
  refine cw_seq ?_
  refine cw_seq ?_
  refine cw_region ?_
  refine sq 4 rfl rfl (Y_loadA (B := some ⟨b, 0, none⟩) (i := 0) (cs := [.int .i64 m.Rows, .int .i64 m.Cols, .slice B m.Cells.length c]) (vs := [.int .i64 m.Rows, .int .i64 m.Cols, .slice B m.Cells.length c]) k_ag_62 k_sz_62_3 rfl rfl (hS2.cf (i := 0) rfl) rfl rfl) ?_
  obtain ⟨r_2, hc, hF⟩ := bind_inv hF
  refine sc 5 rfl rfl (Yc_func (g := 99) (vs := [.agg #[.int .i64 m.Rows, .int .i64 m.Cols, .slice B m.Cells.length c]]) k_call_99 rfl (mc rfl mn) (c_impl_IsValidMatrix m B c m.Cells.length _ rfl (hS2.inn0 [(true, 0)] rfl) hc)) ?_
  rintro _ w_2 ⟨rfl, hd⟩
  have hS3 := hS2.out00 hd
  have hS3 : ST w0 [] _ [⟨some ⟨b, 0, none⟩, 62, [.int .i64 m.Rows, .int .i64 m.Cols, .slice B m.Cells.length c], 3⟩, ⟨some ⟨b1, 0, none⟩, 62, [.int .i64 0, .int .i64 0, .slice none 0 0], 3⟩] [⟨B, (m.Cells.flatMap enc_Dyadic)⟩] := hS3
  refine sq 6 rfl rfl (Y_not (p := r_2) rfl rfl) ?_
  refine rw_nil ?_
  refine cw_cond (b := (!r_2)) rfl (fun hb => ?_) (fun hb => ?_)
  · skip
    have hF1 := ct hF hb
    refine cw_seq ?_
    refine cw_region ?_
    refine sq 7 rfl rfl (Y_buildS (zs := [.int .i64 0, .int .i64 0, .slice none 0 0]) (vs := []) (cs := [.int .i64 0, .int .i64 0, .slice none 0 0]) k_pl_62 k_zero_62 rfl mpn rfl) ?_
    refine ss0 rfl rfl (Ys_store (i := 1) (s := 3) (B := some ⟨b1, 0, none⟩) (T' := 62) (v := .agg #[.int .i64 0, .int .i64 0, .slice none 0 0]) (vs := [.int .i64 0, .int .i64 0, .slice none 0 0]) (k := 0) (cs' := [.int .i64 0, .int .i64 0, .slice none 0 0]) hS3 k_sz_62_3 rfl rfl rfl rfl rfl rfl rfl (Nat.le_of_ble_eq_true rfl) rfl rfl) ?_
    rintro _ w_3 ⟨rfl, hS4⟩
    have hS4 : ST w0 [] _ [⟨some ⟨b, 0, none⟩, 62, [.int .i64 m.Rows, .int .i64 m.Cols, .slice B m.Cells.length c], 3⟩, ⟨some ⟨b1, 0, none⟩, 62, [.int .i64 0, .int .i64 0, .slice none 0 0], 3⟩] [⟨B, (m.Cells.flatMap enc_Dyadic)⟩] := hS4
    refine sq 3 rfl rfl (Y_assign (v := .bool false) rfl rfl) ?_
    refine rw_nil ?_
    refine cw_ret ?_
    have hS5 := hS4.addNil 91
    obtain ⟨rfl, rfl⟩ := pr2 (some_inj hF1)
    exact ret2 Try.results100 (v1 := .agg #[.int .i64 0, .int .i64 0, .slice none 0 0]) (resAt_cellA (B := some ⟨b1, 0, none⟩) (i := 0) (cs := [.int .i64 0, .int .i64 0, .slice none 0 0]) (vs := [.int .i64 0, .int .i64 0, .slice none 0 0]) rfl k_ag_62 k_sz_62_3 (hS5.cf (i := 1) rfl) rfl rfl) (v2 := .bool false) (resAt_tmp rfl) ⟨none, 0, rfl, (ST.subR (R' := []) (hS5.sel [2] rfl rfl) (fun _ h => by cases h))⟩
  · skip
    have hF2 := cf' hF hb
    refine cw_skip ?_
    refine cw_seq ?_
    refine cw_region ?_
    refine sq 8 rfl rfl (Y_fieldAddr (B := some ⟨b, 0, none⟩) (i := 0) (s := 0) k_fd_62_1_1_3 k_sz_3_1 rfl rfl) ?_
    refine sq 9 rfl rfl (Y_load1 (B := some ⟨b, 0, none⟩) (i := 1) (cs := [.int .i64 m.Rows, .int .i64 m.Cols, .slice B m.Cells.length c]) (v := .int .i64 m.Cols) k_sc_3 rfl rfl (hS3.cf (i := 0) rfl) rfl) ?_
    refine sq 10 rfl rfl (Y_fieldAddr (B := some ⟨b, 0, none⟩) (i := 0) (s := 0) k_fd_62_0_0_3 k_sz_3_1 rfl rfl) ?_
    refine sq 11 rfl rfl (Y_load1 (B := some ⟨b, 0, none⟩) (i := 0) (cs := [.int .i64 m.Rows, .int .i64 m.Cols, .slice B m.Cells.length c]) (v := .int .i64 m.Rows) k_sc_3 rfl rfl (hS3.cf (i := 0) rfl) rfl) ?_
    refine sq 12 rfl rfl (Y_makeFunc (cs := [pt (some ⟨b, 0, none⟩) 0]) rfl rfl (mc rfl mn)) ?_
    obtain ⟨⟨r_3, r_4⟩, hc1, hF2⟩ := bind_inv hF2
    refine sc 13 rfl rfl (Yc_func (g := 109) (vs := [.int .i64 m.Cols, .int .i64 m.Rows, .func (.func 156) #[] #[pt (some ⟨b, 0, none⟩) 0]]) k_call_109 rfl (mc rfl (mc rfl (mc rfl mn))) (c_impl_matrixOf m.Cols m.Rows (fun x_0 x_1 => F_impl_Adjoint_1 x_0 x_1 m) 156 (#[pt (some ⟨b, 0, none⟩) 0]) [⟨some ⟨b, 0, none⟩, [.int .i64 m.Rows, .int .i64 m.Cols, .slice B m.Cells.length c]⟩, ⟨B, (m.Cells.flatMap enc_Dyadic)⟩] _ k_call_156 (fun w hw x_0 x_1 y_0 y_1 h_ => c_impl_Adjoint_1 x_0 x_1 m (some ⟨b, 0, none⟩) B c m.Cells.length w rfl hw h_) (hS3.inn0 [(false, 0), (true, 0)] rfl) hc1)) ?_
    rintro _ w_4 ⟨B2, c2, rfl, hd1⟩
    have hS6 := hS3.out0 hd1
    have hS6 : ST w0 [] _ [⟨some ⟨b, 0, none⟩, 62, [.int .i64 m.Rows, .int .i64 m.Cols, .slice B m.Cells.length c], 3⟩, ⟨some ⟨b1, 0, none⟩, 62, [.int .i64 0, .int .i64 0, .slice none 0 0], 3⟩, ⟨B2, 91, (r_3.Cells.flatMap enc_Dyadic), c2 * 5⟩] [⟨B, (m.Cells.flatMap enc_Dyadic)⟩] := hS6
    refine sq 14 rfl rfl (Y_extract (v := .agg #[.int .i64 r_3.Rows, .int .i64 r_3.Cols, .slice B2 r_3.Cells.length c2]) rfl rfl rfl) ?_
    refine sq 15 rfl rfl (Y_extract (v := .bool r_4) rfl rfl rfl) ?_
    refine ss0 rfl rfl (Ys_store (i := 1) (s := 3) (B := some ⟨b1, 0, none⟩) (T' := 62) (v := .agg #[.int .i64 r_3.Rows, .int .i64 r_3.Cols, .slice B2 r_3.Cells.length c2]) (vs := [.int .i64 r_3.Rows, .int .i64 r_3.Cols, .slice B2 r_3.Cells.length c2]) (k := 0) (cs' := [.int .i64 r_3.Rows, .int .i64 r_3.Cols, .slice B2 r_3.Cells.length c2]) hS6 k_sz_62_3 rfl rfl rfl rfl rfl rfl rfl (Nat.le_of_ble_eq_true rfl) rfl rfl) ?_
    rintro _ w_5 ⟨rfl, hS7⟩
    have hS7 : ST w0 [] _ [⟨some ⟨b, 0, none⟩, 62, [.int .i64 m.Rows, .int .i64 m.Cols, .slice B m.Cells.length c], 3⟩, ⟨some ⟨b1, 0, none⟩, 62, [.int .i64 r_3.Rows, .int .i64 r_3.Cols, .slice B2 r_3.Cells.length c2], 3⟩, ⟨B2, 91, (r_3.Cells.flatMap enc_Dyadic), c2 * 5⟩] [⟨B, (m.Cells.flatMap enc_Dyadic)⟩] := hS7
    refine sq 3 rfl rfl (Y_assign (v := .bool r_4) rfl rfl) ?_
    refine rw_nil ?_
    refine cw_ret ?_
    obtain ⟨rfl, rfl⟩ := pr2 (some_inj hF2)
    exact ret2 Try.results100 (v1 := .agg #[.int .i64 r_3.Rows, .int .i64 r_3.Cols, .slice B2 r_3.Cells.length c2]) (resAt_cellA (B := some ⟨b1, 0, none⟩) (i := 0) (cs := [.int .i64 r_3.Rows, .int .i64 r_3.Cols, .slice B2 r_3.Cells.length c2]) (vs := [.int .i64 r_3.Rows, .int .i64 r_3.Cols, .slice B2 r_3.Cells.length c2]) rfl k_ag_62 k_sz_62_3 (hS7.cf (i := 1) rfl) rfl rfl) (v2 := .bool r_4) (resAt_tmp rfl) ⟨B2, c2, rfl, (ST.subR (R' := []) (hS7.sel [2] rfl rfl) (fun _ h => by cases h))⟩

theorem c_impl_MulRing (x : TRing) (y : TRing)  (w0 : World)  (hS : ST w0 [] w0 [] []) {r_ : TRing} {r_1 : Bool} (hF : F_impl_MulRing x y = some (r_, r_1)) :
    CV Try.prog 166 #[.agg #[.int .i64 x.A, .int .i64 x.B, .int .i64 x.C, .int .i64 x.D], .agg #[.int .i64 y.A, .int .i64 y.B, .int .i64 y.C, .int .i64 y.D]] w0 (fun v w' => v = .tuple #[.agg #[.int .i64 r_.A, .int .i64 r_.B, .int .i64 r_.C, .int .i64 r_.D], .bool r_1] ∧ ST w0 [] w' [] []) := by
  unfold F_impl_MulRing at hF
  refine cv_of_cw 105 Try.func166 rfl Try.ntmps166 rfl ?_
  refine cw_seq ?_
  refine cw_region ?_
  refine ss 2 rfl rfl (Ys_box (T := 89) (v := .agg #[.int .i64 x.A, .int .i64 x.B, .int .i64 x.C, .int .i64 x.D]) (cs := [.int .i64 x.A, .int .i64 x.B, .int .i64 x.C, .int .i64 x.D]) (m := 4) hS rfl rfl rfl rfl) ?_
  rintro _ w_ ⟨b, rfl, hS1⟩
  refine ss 3 rfl rfl (Ys_box (T := 89) (v := .agg #[.int .i64 y.A, .int .i64 y.B, .int .i64 y.C, .int .i64 y.D]) (cs := [.int .i64 y.A, .int .i64 y.B, .int .i64 y.C, .int .i64 y.D]) (m := 4) hS1 rfl rfl rfl rfl) ?_
  rintro _ w_1 ⟨b1, rfl, hS2⟩
  have hS2 : ST w0 [] _ [⟨some ⟨b, 0, none⟩, 89, [.int .i64 x.A, .int .i64 x.B, .int .i64 x.C, .int .i64 x.D], 4⟩, ⟨some ⟨b1, 0, none⟩, 89, [.int .i64 y.A, .int .i64 y.B, .int .i64 y.C, .int .i64 y.D], 4⟩] [] := hS2
  refine ss 4 rfl rfl (Ys_alloc (T := 89) (cs := [.int .i64 0, .int .i64 0, .int .i64 0, .int .i64 0]) (m := 4) hS2 k_zero_89 rfl rfl rfl) ?_
  rintro _ w_2 ⟨b2, rfl, hS3⟩
  have hS3 : ST w0 [] _ [⟨some ⟨b, 0, none⟩, 89, [.int .i64 x.A, .int .i64 x.B, .int .i64 x.C, .int .i64 x.D], 4⟩, ⟨some ⟨b1, 0, none⟩, 89, [.int .i64 y.A, .int .i64 y.B, .int .i64 y.C, .int .i64 y.D], 4⟩, ⟨some ⟨b2, 0, none⟩, 89, [.int .i64 0, .int .i64 0, .int .i64 0, .int .i64 0], 4⟩] [] := hS3
  refine sq 5 rfl rfl (Y_assign (v := .bool false) rfl rfl) ?_
  refine rw_nil ?_
  refine cw_seq ?_
  refine cw_region ?_
  refine sq 6 rfl rfl (Y_fieldAddr (B := some ⟨b, 0, none⟩) (i := 0) (s := 0) k_fd_89_0_0_3 k_sz_3_1 rfl rfl) ?_
  refine sq 7 rfl rfl (Y_load1 (B := some ⟨b, 0, none⟩) (i := 0) (cs := [.int .i64 x.A, .int .i64 x.B, .int .i64 x.C, .int .i64 x.D]) (v := .int .i64 x.A) k_sc_3 rfl rfl (hS3.cf (i := 0) rfl) rfl) ?_
  refine sq 8 rfl rfl (Y_fieldAddr (B := some ⟨b1, 0, none⟩) (i := 0) (s := 0) k_fd_89_0_0_3 k_sz_3_1 rfl rfl) ?_
  refine sq 9 rfl rfl (Y_load1 (B := some ⟨b1, 0, none⟩) (i := 0) (cs := [.int .i64 y.A, .int .i64 y.B, .int .i64 y.C, .int .i64 y.D]) (v := .int .i64 y.A) k_sc_3 rfl rfl (hS3.cf (i := 1) rfl) rfl) ?_
  refine sq 10 rfl rfl (Y_mul (k := .i64) (a := x.A) (b := y.A) rfl rfl rfl) ?_
  refine sq 11 rfl rfl (Y_fieldAddr (B := some ⟨b, 0, none⟩) (i := 0) (s := 0) k_fd_89_1_1_3 k_sz_3_1 rfl rfl) ?_
  refine sq 12 rfl rfl (Y_load1 (B := some ⟨b, 0, none⟩) (i := 1) (cs := [.int .i64 x.A, .int .i64 x.B, .int .i64 x.C, .int .i64 x.D]) (v := .int .i64 x.B) k_sc_3 rfl rfl (hS3.cf (i := 0) rfl) rfl) ?_
  refine sq 13 rfl rfl (Y_fieldAddr (B := some ⟨b1, 0, none⟩) (i := 0) (s := 0) k_fd_89_3_3_3 k_sz_3_1 rfl rfl) ?_
  refine sq 14 rfl rfl (Y_load1 (B := some ⟨b1, 0, none⟩) (i := 3) (cs := [.int .i64 y.A, .int .i64 y.B, .int .i64 y.C, .int .i64 y.D]) (v := .int .i64 y.D) k_sc_3 rfl rfl (hS3.cf (i := 1) rfl) rfl) ?_
  refine sq 15 rfl rfl (Y_mul (k := .i64) (a := x.B) (b := y.D) rfl rfl rfl) ?_
  refine sq 16 rfl rfl (Y_sub (k := .i64) (a := (IntKind.i64.wrap (x.A * y.A))) (b := (IntKind.i64.wrap (x.B * y.D))) rfl rfl rfl) ?_
  refine sq 17 rfl rfl (Y_fieldAddr (B := some ⟨b, 0, none⟩) (i := 0) (s := 0) k_fd_89_2_2_3 k_sz_3_1 rfl rfl) ?_
  refine sq 18 rfl rfl (Y_load1 (B := some ⟨b, 0, none⟩) (i := 2) (cs := [.int .i64 x.A, .int .i64 x.B, .int .i64 x.C, .int .i64 x.D]) (v := .int .i64 x.C) k_sc_3 rfl rfl (hS3.cf (i := 0) rfl) rfl) ?_
  refine sq 19 rfl rfl (Y_fieldAddr (B := some ⟨b1, 0, none⟩) (i := 0) (s := 0) k_fd_89_2_2_3 k_sz_3_1 rfl rfl) ?_
  refine sq 20 rfl rfl (Y_load1 (B := some ⟨b1, 0, none⟩) (i := 2) (cs := [.int .i64 y.A, .int .i64 y.B, .int .i64 y.C, .int .i64 y.D]) (v := .int .i64 y.C) k_sc_3 rfl rfl (hS3.cf (i := 1) rfl) rfl) ?_
  refine sq 21 rfl rfl (Y_mul (k := .i64) (a := x.C) (b := y.C) rfl rfl rfl) ?_
  refine sq 22 rfl rfl (Y_sub (k := .i64) (a := (IntKind.i64.wrap ((IntKind.i64.wrap (x.A * y.A)) - (IntKind.i64.wrap (x.B * y.D))))) (b := (IntKind.i64.wrap (x.C * y.C))) rfl rfl rfl) ?_
  refine sq 23 rfl rfl (Y_fieldAddr (B := some ⟨b, 0, none⟩) (i := 0) (s := 0) k_fd_89_3_3_3 k_sz_3_1 rfl rfl) ?_
  refine sq 24 rfl rfl (Y_load1 (B := some ⟨b, 0, none⟩) (i := 3) (cs := [.int .i64 x.A, .int .i64 x.B, .int .i64 x.C, .int .i64 x.D]) (v := .int .i64 x.D) k_sc_3 rfl rfl (hS3.cf (i := 0) rfl) rfl) ?_
  refine sq 25 rfl rfl (Y_fieldAddr (B := some ⟨b1, 0, none⟩) (i := 0) (s := 0) k_fd_89_1_1_3 k_sz_3_1 rfl rfl) ?_
  refine sq 26 rfl rfl (Y_load1 (B := some ⟨b1, 0, none⟩) (i := 1) (cs := [.int .i64 y.A, .int .i64 y.B, .int .i64 y.C, .int .i64 y.D]) (v := .int .i64 y.B) k_sc_3 rfl rfl (hS3.cf (i := 1) rfl) rfl) ?_
  refine sq 27 rfl rfl (Y_mul (k := .i64) (a := x.D) (b := y.B) rfl rfl rfl) ?_
  refine sq 28 rfl rfl (Y_sub (k := .i64) (a := (IntKind.i64.wrap ((IntKind.i64.wrap ((IntKind.i64.wrap (x.A * y.A)) - (IntKind.i64.wrap (x.B * y.D)))) - (IntKind.i64.wrap (x.C * y.C))))) (b := (IntKind.i64.wrap (x.D * y.B))) rfl rfl rfl) ?_
  refine sq 29 rfl rfl (Y_fieldAddr (B := some ⟨b, 0, none⟩) (i := 0) (s := 0) k_fd_89_0_0_3 k_sz_3_1 rfl rfl) ?_
  refine sq 30 rfl rfl (Y_load1 (B := some ⟨b, 0, none⟩) (i := 0) (cs := [.int .i64 x.A, .int .i64 x.B, .int .i64 x.C, .int .i64 x.D]) (v := .int .i64 x.A) k_sc_3 rfl rfl (hS3.cf (i := 0) rfl) rfl) ?_
  refine sq 31 rfl rfl (Y_fieldAddr (B := some ⟨b1, 0, none⟩) (i := 0) (s := 0) k_fd_89_1_1_3 k_sz_3_1 rfl rfl) ?_
  refine sq 32 rfl rfl (Y_load1 (B := some ⟨b1, 0, none⟩) (i := 1) (cs := [.int .i64 y.A, .int .i64 y.B, .int .i64 y.C, .int .i64 y.D]) (v := .int .i64 y.B) k_sc_3 rfl rfl (hS3.cf (i := 1) rfl) rfl) ?_
  refine sq 33 rfl rfl (Y_mul (k := .i64) (a := x.A) (b := y.B) rfl rfl rfl) ?_
  refine sq 34 rfl rfl (Y_fieldAddr (B := some ⟨b, 0, none⟩) (i := 0) (s := 0) k_fd_89_1_1_3 k_sz_3_1 rfl rfl) ?_
  refine sq 35 rfl rfl (Y_load1 (B := some ⟨b, 0, none⟩) (i := 1) (cs := [.int .i64 x.A, .int .i64 x.B, .int .i64 x.C, .int .i64 x.D]) (v := .int .i64 x.B) k_sc_3 rfl rfl (hS3.cf (i := 0) rfl) rfl) ?_
  refine sq 36 rfl rfl (Y_fieldAddr (B := some ⟨b1, 0, none⟩) (i := 0) (s := 0) k_fd_89_0_0_3 k_sz_3_1 rfl rfl) ?_
  refine sq 37 rfl rfl (Y_load1 (B := some ⟨b1, 0, none⟩) (i := 0) (cs := [.int .i64 y.A, .int .i64 y.B, .int .i64 y.C, .int .i64 y.D]) (v := .int .i64 y.A) k_sc_3 rfl rfl (hS3.cf (i := 1) rfl) rfl) ?_
  refine sq 38 rfl rfl (Y_mul (k := .i64) (a := x.B) (b := y.A) rfl rfl rfl) ?_
  refine sq 39 rfl rfl (Y_add (k := .i64) (a := (IntKind.i64.wrap (x.A * y.B))) (b := (IntKind.i64.wrap (x.B * y.A))) rfl rfl rfl) ?_
  refine sq 40 rfl rfl (Y_fieldAddr (B := some ⟨b, 0, none⟩) (i := 0) (s := 0) k_fd_89_2_2_3 k_sz_3_1 rfl rfl) ?_
  refine sq 41 rfl rfl (Y_load1 (B := some ⟨b, 0, none⟩) (i := 2) (cs := [.int .i64 x.A, .int .i64 x.B, .int .i64 x.C, .int .i64 x.D]) (v := .int .i64 x.C) k_sc_3 rfl rfl (hS3.cf (i := 0) rfl) rfl) ?_
  refine sq 42 rfl rfl (Y_fieldAddr (B := some ⟨b1, 0, none⟩) (i := 0) (s := 0) k_fd_89_3_3_3 k_sz_3_1 rfl rfl) ?_
  refine sq 43 rfl rfl (Y_load1 (B := some ⟨b1, 0, none⟩) (i := 3) (cs := [.int .i64 y.A, .int .i64 y.B, .int .i64 y.C, .int .i64 y.D]) (v := .int .i64 y.D) k_sc_3 rfl rfl (hS3.cf (i := 1) rfl) rfl) ?_
  refine sq 44 rfl rfl (Y_mul (k := .i64) (a := x.C) (b := y.D) rfl rfl rfl) ?_
  refine sq 45 rfl rfl (Y_sub (k := .i64) (a := (IntKind.i64.wrap ((IntKind.i64.wrap (x.A * y.B)) + (IntKind.i64.wrap (x.B * y.A))))) (b := (IntKind.i64.wrap (x.C * y.D))) rfl rfl rfl) ?_
  refine sq 46 rfl rfl (Y_fieldAddr (B := some ⟨b, 0, none⟩) (i := 0) (s := 0) k_fd_89_3_3_3 k_sz_3_1 rfl rfl) ?_
  refine sq 47 rfl rfl (Y_load1 (B := some ⟨b, 0, none⟩) (i := 3) (cs := [.int .i64 x.A, .int .i64 x.B, .int .i64 x.C, .int .i64 x.D]) (v := .int .i64 x.D) k_sc_3 rfl rfl (hS3.cf (i := 0) rfl) rfl) ?_
  refine sq 48 rfl rfl (Y_fieldAddr (B := some ⟨b1, 0, none⟩) (i := 0) (s := 0) k_fd_89_2_2_3 k_sz_3_1 rfl rfl) ?_
  refine sq 49 rfl rfl (Y_load1 (B := some ⟨b1, 0, none⟩) (i := 2) (cs := [.int .i64 y.A, .int .i64 y.B, .int .i64 y.C, .int .i64 y.D]) (v := .int .i64 y.C) k_sc_3 rfl rfl (hS3.cf (i := 1) rfl) rfl) ?_
  refine sq 50 rfl rfl (Y_mul (k := .i64) (a := x.D) (b := y.C) rfl rfl rfl) ?_
  refine sq 51 rfl rfl (Y_sub (k := .i64) (a := (IntKind.i64.wrap ((IntKind.i64.wrap ((IntKind.i64.wrap (x.A * y.B)) + (IntKind.i64.wrap (x.B * y.A)))) - (IntKind.i64.wrap (x.C * y.D))))) (b := (IntKind.i64.wrap (x.D * y.C))) rfl rfl rfl) ?_
  refine sq 52 rfl rfl (Y_fieldAddr (B := some ⟨b, 0, none⟩) (i := 0) (s := 0) k_fd_89_0_0_3 k_sz_3_1 rfl rfl) ?_
  refine sq 53 rfl rfl (Y_load1 (B := some ⟨b, 0, none⟩) (i := 0) (cs := [.int .i64 x.A, .int .i64 x.B, .int .i64 x.C, .int .i64 x.D]) (v := .int .i64 x.A) k_sc_3 rfl rfl (hS3.cf (i := 0) rfl) rfl) ?_
  refine sq 54 rfl rfl (Y_fieldAddr (B := some ⟨b1, 0, none⟩) (i := 0) (s := 0) k_fd_89_2_2_3 k_sz_3_1 rfl rfl) ?_
  refine sq 55 rfl rfl (Y_load1 (B := some ⟨b1, 0, none⟩) (i := 2) (cs := [.int .i64 y.A, .int .i64 y.B, .int .i64 y.C, .int .i64 y.D]) (v := .int .i64 y.C) k_sc_3 rfl rfl (hS3.cf (i := 1) rfl) rfl) ?_
  refine sq 56 rfl rfl (Y_mul (k := .i64) (a := x.A) (b := y.C) rfl rfl rfl) ?_
  refine sq 57 rfl rfl (Y_fieldAddr (B := some ⟨b, 0, none⟩) (i := 0) (s := 0) k_fd_89_1_1_3 k_sz_3_1 rfl rfl) ?_
  refine sq 58 rfl rfl (Y_load1 (B := some ⟨b, 0, none⟩) (i := 1) (cs := [.int .i64 x.A, .int .i64 x.B, .int .i64 x.C, .int .i64 x.D]) (v := .int .i64 x.B) k_sc_3 rfl rfl (hS3.cf (i := 0) rfl) rfl) ?_
  refine sq 59 rfl rfl (Y_fieldAddr (B := some ⟨b1, 0, none⟩) (i := 0) (s := 0) k_fd_89_1_1_3 k_sz_3_1 rfl rfl) ?_
  refine sq 60 rfl rfl (Y_load1 (B := some ⟨b1, 0, none⟩) (i := 1) (cs := [.int .i64 y.A, .int .i64 y.B, .int .i64 y.C, .int .i64 y.D]) (v := .int .i64 y.B) k_sc_3 rfl rfl (hS3.cf (i := 1) rfl) rfl) ?_
  refine sq 61 rfl rfl (Y_mul (k := .i64) (a := x.B) (b := y.B) rfl rfl rfl) ?_
  refine sq 62 rfl rfl (Y_add (k := .i64) (a := (IntKind.i64.wrap (x.A * y.C))) (b := (IntKind.i64.wrap (x.B * y.B))) rfl rfl rfl) ?_
  refine sq 63 rfl rfl (Y_fieldAddr (B := some ⟨b, 0, none⟩) (i := 0) (s := 0) k_fd_89_2_2_3 k_sz_3_1 rfl rfl) ?_
  refine sq 64 rfl rfl (Y_load1 (B := some ⟨b, 0, none⟩) (i := 2) (cs := [.int .i64 x.A, .int .i64 x.B, .int .i64 x.C, .int .i64 x.D]) (v := .int .i64 x.C) k_sc_3 rfl rfl (hS3.cf (i := 0) rfl) rfl) ?_
  refine sq 65 rfl rfl (Y_fieldAddr (B := some ⟨b1, 0, none⟩) (i := 0) (s := 0) k_fd_89_0_0_3 k_sz_3_1 rfl rfl) ?_
  refine sq 66 rfl rfl (Y_load1 (B := some ⟨b1, 0, none⟩) (i := 0) (cs := [.int .i64 y.A, .int .i64 y.B, .int .i64 y.C, .int .i64 y.D]) (v := .int .i64 y.A) k_sc_3 rfl rfl (hS3.cf (i := 1) rfl) rfl) ?_
  refine sq 67 rfl rfl (Y_mul (k := .i64) (a := x.C) (b := y.A) rfl rfl rfl) ?_
  refine sq 68 rfl rfl (Y_add (k := .i64) (a := (IntKind.i64.wrap ((IntKind.i64.wrap (x.A * y.C)) + (IntKind.i64.wrap (x.B * y.B))))) (b := (IntKind.i64.wrap (x.C * y.A))) rfl rfl rfl) ?_
  refine sq 69 rfl rfl (Y_fieldAddr (B := some ⟨b, 0, none⟩) (i := 0) (s := 0) k_fd_89_3_3_3 k_sz_3_1 rfl rfl) ?_
  refine sq 70 rfl rfl (Y_load1 (B := some ⟨b, 0, none⟩) (i := 3) (cs := [.int .i64 x.A, .int .i64 x.B, .int .i64 x.C, .int .i64 x.D]) (v := .int .i64 x.D) k_sc_3 rfl rfl (hS3.cf (i := 0) rfl) rfl) ?_
  refine sq 71 rfl rfl (Y_fieldAddr (B := some ⟨b1, 0, none⟩) (i := 0) (s := 0) k_fd_89_3_3_3 k_sz_3_1 rfl rfl) ?_
  refine sq 72 rfl rfl (Y_load1 (B := some ⟨b1, 0, none⟩) (i := 3) (cs := [.int .i64 y.A, .int .i64 y.B, .int .i64 y.C, .int .i64 y.D]) (v := .int .i64 y.D) k_sc_3 rfl rfl (hS3.cf (i := 1) rfl) rfl) ?_
  refine sq 73 rfl rfl (Y_mul (k := .i64) (a := x.D) (b := y.D) rfl rfl rfl) ?_
  refine sq 74 rfl rfl (Y_sub (k := .i64) (a := (IntKind.i64.wrap ((IntKind.i64.wrap ((IntKind.i64.wrap (x.A * y.C)) + (IntKind.i64.wrap (x.B * y.B)))) + (IntKind.i64.wrap (x.C * y.A))))) (b := (IntKind.i64.wrap (x.D * y.D))) rfl rfl rfl) ?_
  refine sq 75 rfl rfl (Y_fieldAddr (B := some ⟨b, 0, none⟩) (i := 0) (s := 0) k_fd_89_0_0_3 k_sz_3_1 rfl rfl) ?_
  refine sq 76 rfl rfl (Y_load1 (B := some ⟨b, 0, none⟩) (i := 0) (cs := [.int .i64 x.A, .int .i64 x.B, .int .i64 x.C, .int .i64 x.D]) (v := .int .i64 x.A) k_sc_3 rfl rfl (hS3.cf (i := 0) rfl) rfl) ?_
  refine sq 77 rfl rfl (Y_fieldAddr (B := some ⟨b1, 0, none⟩) (i := 0) (s := 0) k_fd_89_3_3_3 k_sz_3_1 rfl rfl) ?_
  refine sq 78 rfl rfl (Y_load1 (B := some ⟨b1, 0, none⟩) (i := 3) (cs := [.int .i64 y.A, .int .i64 y.B, .int .i64 y.C, .int .i64 y.D]) (v := .int .i64 y.D) k_sc_3 rfl rfl (hS3.cf (i := 1) rfl) rfl) ?_
  refine sq 79 rfl rfl (Y_mul (k := .i64) (a := x.A) (b := y.D) rfl rfl rfl) ?_
  refine sq 80 rfl rfl (Y_fieldAddr (B := some ⟨b, 0, none⟩) (i := 0) (s := 0) k_fd_89_1_1_3 k_sz_3_1 rfl rfl) ?_
  refine sq 81 rfl rfl (Y_load1 (B := some ⟨b, 0, none⟩) (i := 1) (cs := [.int .i64 x.A, .int .i64 x.B, .int .i64 x.C, .int .i64 x.D]) (v := .int .i64 x.B) k_sc_3 rfl rfl (hS3.cf (i := 0) rfl) rfl) ?_
  refine sq 82 rfl rfl (Y_fieldAddr (B := some ⟨b1, 0, none⟩) (i := 0) (s := 0) k_fd_89_2_2_3 k_sz_3_1 rfl rfl) ?_
  refine sq 83 rfl rfl (Y_load1 (B := some ⟨b1, 0, none⟩) (i := 2) (cs := [.int .i64 y.A, .int .i64 y.B, .int .i64 y.C, .int .i64 y.D]) (v := .int .i64 y.C) k_sc_3 rfl rfl (hS3.cf (i := 1) rfl) rfl) ?_
  refine sq 84 rfl rfl (Y_mul (k := .i64) (a := x.B) (b := y.C) rfl rfl rfl) ?_
  refine sq 85 rfl rfl (Y_add (k := .i64) (a := (IntKind.i64.wrap (x.A * y.D))) (b := (IntKind.i64.wrap (x.B * y.C))) rfl rfl rfl) ?_
  refine sq 86 rfl rfl (Y_fieldAddr (B := some ⟨b, 0, none⟩) (i := 0) (s := 0) k_fd_89_2_2_3 k_sz_3_1 rfl rfl) ?_
  refine sq 87 rfl rfl (Y_load1 (B := some ⟨b, 0, none⟩) (i := 2) (cs := [.int .i64 x.A, .int .i64 x.B, .int .i64 x.C, .int .i64 x.D]) (v := .int .i64 x.C) k_sc_3 rfl rfl (hS3.cf (i := 0) rfl) rfl) ?_
  refine sq 88 rfl rfl (Y_fieldAddr (B := some ⟨b1, 0, none⟩) (i := 0) (s := 0) k_fd_89_1_1_3 k_sz_3_1 rfl rfl) ?_
  refine sq 89 rfl rfl (Y_load1 (B := some ⟨b1, 0, none⟩) (i := 1) (cs := [.int .i64 y.A, .int .i64 y.B, .int .i64 y.C, .int .i64 y.D]) (v := .int .i64 y.B) k_sc_3 rfl rfl (hS3.cf (i := 1) rfl) rfl) ?_
  refine sq 90 rfl rfl (Y_mul (k := .i64) (a := x.C) (b := y.B) rfl rfl rfl) ?_
  refine sq 91 rfl rfl (Y_add (k := .i64) (a := (IntKind.i64.wrap ((IntKind.i64.wrap (x.A * y.D)) + (IntKind.i64.wrap (x.B * y.C))))) (b := (IntKind.i64.wrap (x.C * y.B))) rfl rfl rfl) ?_
  refine sq 92 rfl rfl (Y_fieldAddr (B := some ⟨b, 0, none⟩) (i := 0) (s := 0) k_fd_89_3_3_3 k_sz_3_1 rfl rfl) ?_
  refine sq 93 rfl rfl (Y_load1 (B := some ⟨b, 0, none⟩) (i := 3) (cs := [.int .i64 x.A, .int .i64 x.B, .int .i64 x.C, .int .i64 x.D]) (v := .int .i64 x.D) k_sc_3 rfl rfl (hS3.cf (i := 0) rfl) rfl) ?_
  refine sq 94 rfl rfl (Y_fieldAddr (B := some ⟨b1, 0, none⟩) (i := 0) (s := 0) k_fd_89_0_0_3 k_sz_3_1 rfl rfl) ?_
  refine sq 95 rfl rfl (Y_load1 (B := some ⟨b1, 0, none⟩) (i := 0) (cs := [.int .i64 y.A, .int .i64 y.B, .int .i64 y.C, .int .i64 y.D]) (v := .int .i64 y.A) k_sc_3 rfl rfl (hS3.cf (i := 1) rfl) rfl) ?_
  refine sq 96 rfl rfl (Y_mul (k := .i64) (a := x.D) (b := y.A) rfl rfl rfl) ?_
  refine sq 97 rfl rfl (Y_add (k := .i64) (a := (IntKind.i64.wrap ((IntKind.i64.wrap ((IntKind.i64.wrap (x.A * y.D)) + (IntKind.i64.wrap (x.B * y.C)))) + (IntKind.i64.wrap (x.C * y.B))))) (b := (IntKind.i64.wrap (x.D * y.A))) rfl rfl rfl) ?_
  refine sq 98 rfl rfl (Y_buildS (zs := [.int .i64 0, .int .i64 0, .int .i64 0, .int .i64 0]) (vs := [(0, .int .i64 (IntKind.i64.wrap ((IntKind.i64.wrap ((IntKind.i64.wrap ((IntKind.i64.wrap (x.A * y.A)) - (IntKind.i64.wrap (x.B * y.D)))) - (IntKind.i64.wrap (x.C * y.C)))) - (IntKind.i64.wrap (x.D * y.B))))), (1, .int .i64 (IntKind.i64.wrap ((IntKind.i64.wrap ((IntKind.i64.wrap ((IntKind.i64.wrap (x.A * y.B)) + (IntKind.i64.wrap (x.B * y.A)))) - (IntKind.i64.wrap (x.C * y.D)))) - (IntKind.i64.wrap (x.D * y.C))))), (2, .int .i64 (IntKind.i64.wrap ((IntKind.i64.wrap ((IntKind.i64.wrap ((IntKind.i64.wrap (x.A * y.C)) + (IntKind.i64.wrap (x.B * y.B)))) + (IntKind.i64.wrap (x.C * y.A)))) - (IntKind.i64.wrap (x.D * y.D))))), (3, .int .i64 (IntKind.i64.wrap ((IntKind.i64.wrap ((IntKind.i64.wrap ((IntKind.i64.wrap (x.A * y.D)) + (IntKind.i64.wrap (x.B * y.C)))) + (IntKind.i64.wrap (x.C * y.B)))) + (IntKind.i64.wrap (x.D * y.A)))))]) (cs := [.int .i64 (IntKind.i64.wrap ((IntKind.i64.wrap ((IntKind.i64.wrap ((IntKind.i64.wrap (x.A * y.A)) - (IntKind.i64.wrap (x.B * y.D)))) - (IntKind.i64.wrap (x.C * y.C)))) - (IntKind.i64.wrap (x.D * y.B)))), .int .i64 (IntKind.i64.wrap ((IntKind.i64.wrap ((IntKind.i64.wrap ((IntKind.i64.wrap (x.A * y.B)) + (IntKind.i64.wrap (x.B * y.A)))) - (IntKind.i64.wrap (x.C * y.D)))) - (IntKind.i64.wrap (x.D * y.C)))), .int .i64 (IntKind.i64.wrap ((IntKind.i64.wrap ((IntKind.i64.wrap ((IntKind.i64.wrap (x.A * y.C)) + (IntKind.i64.wrap (x.B * y.B)))) + (IntKind.i64.wrap (x.C * y.A)))) - (IntKind.i64.wrap (x.D * y.D)))), .int .i64 (IntKind.i64.wrap ((IntKind.i64.wrap ((IntKind.i64.wrap ((IntKind.i64.wrap (x.A * y.D)) + (IntKind.i64.wrap (x.B * y.C)))) + (IntKind.i64.wrap (x.C * y.B)))) + (IntKind.i64.wrap (x.D * y.A))))]) k_pl_89 k_zero_89 rfl (mpc rfl (mpc rfl (mpc rfl (mpc rfl mpn)))) rfl) ?_
  refine sq 99 rfl rfl (Y_loadA (B := some ⟨b, 0, none⟩) (i := 0) (cs := [.int .i64 x.A, .int .i64 x.B, .int .i64 x.C, .int .i64 x.D]) (vs := [.int .i64 x.A, .int .i64 x.B, .int .i64 x.C, .int .i64 x.D]) k_ag_89 k_sz_89_4 rfl rfl (hS3.cf (i := 0) rfl) rfl rfl) ?_
  refine sq 100 rfl rfl (Y_loadA (B := some ⟨b1, 0, none⟩) (i := 0) (cs := [.int .i64 y.A, .int .i64 y.B, .int .i64 y.C, .int .i64 y.D]) (vs := [.int .i64 y.A, .int .i64 y.B, .int .i64 y.C, .int .i64 y.D]) k_ag_89 k_sz_89_4 rfl rfl (hS3.cf (i := 1) rfl) rfl rfl) ?_
  refine ss 101 rfl rfl (Ys_bslice (s := 4) (len := 2) (vs := [(0, .agg #[.int .i64 x.A, .int .i64 x.B, .int .i64 x.C, .int .i64 x.D]), (1, .agg #[.int .i64 y.A, .int .i64 y.B, .int .i64 y.C, .int .i64 y.D])]) (cs := [.int .i64 x.A, .int .i64 x.B, .int .i64 x.C, .int .i64 x.D, .int .i64 y.A, .int .i64 y.B, .int .i64 y.C, .int .i64 y.D]) (zs := [.int .i64 0, .int .i64 0, .int .i64 0, .int .i64 0, .int .i64 0, .int .i64 0, .int .i64 0, .int .i64 0]) (m := 8) hS3 k_sl_214_89 k_sz_89_4 k_zc_89 rfl (mpc rfl (mpc rfl mpn)) rfl rfl rfl rfl rfl rfl) ?_
  rintro _ w_3 ⟨b3, rfl, hS4⟩
  have hS4 : ST w0 [] _ [⟨some ⟨b, 0, none⟩, 89, [.int .i64 x.A, .int .i64 x.B, .int .i64 x.C, .int .i64 x.D], 4⟩, ⟨some ⟨b1, 0, none⟩, 89, [.int .i64 y.A, .int .i64 y.B, .int .i64 y.C, .int .i64 y.D], 4⟩, ⟨some ⟨b2, 0, none⟩, 89, [.int .i64 0, .int .i64 0, .int .i64 0, .int .i64 0], 4⟩, ⟨some ⟨b3, 0, none⟩, 89, ([x, y].flatMap enc_Ring), 2 * 4⟩] [] := hS4
  obtain ⟨⟨r_2, r_3⟩, hc, hF⟩ := bind_inv hF
  refine sc 102 rfl rfl (Yc_func (g := 202) (vs := [.agg #[.int .i64 (IntKind.i64.wrap ((IntKind.i64.wrap ((IntKind.i64.wrap ((IntKind.i64.wrap (x.A * y.A)) - (IntKind.i64.wrap (x.B * y.D)))) - (IntKind.i64.wrap (x.C * y.C)))) - (IntKind.i64.wrap (x.D * y.B)))), .int .i64 (IntKind.i64.wrap ((IntKind.i64.wrap ((IntKind.i64.wrap ((IntKind.i64.wrap (x.A * y.B)) + (IntKind.i64.wrap (x.B * y.A)))) - (IntKind.i64.wrap (x.C * y.D)))) - (IntKind.i64.wrap (x.D * y.C)))), .int .i64 (IntKind.i64.wrap ((IntKind.i64.wrap ((IntKind.i64.wrap ((IntKind.i64.wrap (x.A * y.C)) + (IntKind.i64.wrap (x.B * y.B)))) + (IntKind.i64.wrap (x.C * y.A)))) - (IntKind.i64.wrap (x.D * y.D)))), .int .i64 (IntKind.i64.wrap ((IntKind.i64.wrap ((IntKind.i64.wrap ((IntKind.i64.wrap (x.A * y.D)) + (IntKind.i64.wrap (x.B * y.C)))) + (IntKind.i64.wrap (x.C * y.B)))) + (IntKind.i64.wrap (x.D * y.A))))], .slice (some ⟨b3, 0, none⟩) 2 2]) k_call_202 rfl (mc rfl (mc rfl mn)) (c_impl_ringIf (TRing.mk (IntKind.i64.wrap ((IntKind.i64.wrap ((IntKind.i64.wrap ((IntKind.i64.wrap (x.A * y.A)) - (IntKind.i64.wrap (x.B * y.D)))) - (IntKind.i64.wrap (x.C * y.C)))) - (IntKind.i64.wrap (x.D * y.B)))) (IntKind.i64.wrap ((IntKind.i64.wrap ((IntKind.i64.wrap ((IntKind.i64.wrap (x.A * y.B)) + (IntKind.i64.wrap (x.B * y.A)))) - (IntKind.i64.wrap (x.C * y.D)))) - (IntKind.i64.wrap (x.D * y.C)))) (IntKind.i64.wrap ((IntKind.i64.wrap ((IntKind.i64.wrap ((IntKind.i64.wrap (x.A * y.C)) + (IntKind.i64.wrap (x.B * y.B)))) + (IntKind.i64.wrap (x.C * y.A)))) - (IntKind.i64.wrap (x.D * y.D)))) (IntKind.i64.wrap ((IntKind.i64.wrap ((IntKind.i64.wrap ((IntKind.i64.wrap (x.A * y.D)) + (IntKind.i64.wrap (x.B * y.C)))) + (IntKind.i64.wrap (x.C * y.B)))) + (IntKind.i64.wrap (x.D * y.A))))) [x, y] (some ⟨b3, 0, none⟩) 2 2 _ rfl (hS4.inn [false, false, false, true] rfl [] rfl) hc)) ?_
  rintro _ w_4 ⟨rfl, hd⟩
  have hS5 := hS4.out [false, false, false, true] rfl hd
  have hS5 : ST w0 [] _ [⟨some ⟨b, 0, none⟩, 89, [.int .i64 x.A, .int .i64 x.B, .int .i64 x.C, .int .i64 x.D], 4⟩, ⟨some ⟨b1, 0, none⟩, 89, [.int .i64 y.A, .int .i64 y.B, .int .i64 y.C, .int .i64 y.D], 4⟩, ⟨some ⟨b2, 0, none⟩, 89, [.int .i64 0, .int .i64 0, .int .i64 0, .int .i64 0], 4⟩] [] := hS5
  refine sq 103 rfl rfl (Y_extract (v := .agg #[.int .i64 r_2.A, .int .i64 r_2.B, .int .i64 r_2.C, .int .i64 r_2.D]) rfl rfl rfl) ?_
  refine sq 104 rfl rfl (Y_extract (v := .bool r_3) rfl rfl rfl) ?_
  refine ss0 rfl rfl (Ys_store (i := 2) (s := 4) (B := some ⟨b2, 0, none⟩) (T' := 89) (v := .agg #[.int .i64 r_2.A, .int .i64 r_2.B, .int .i64 r_2.C, .int .i64 r_2.D]) (vs := [.int .i64 r_2.A, .int .i64 r_2.B, .int .i64 r_2.C, .int .i64 r_2.D]) (k := 0) (cs' := [.int .i64 r_2.A, .int .i64 r_2.B, .int .i64 r_2.C, .int .i64 r_2.D]) hS5 k_sz_89_4 rfl rfl rfl rfl rfl rfl rfl (Nat.le_of_ble_eq_true rfl) rfl rfl) ?_
  rintro _ w_5 ⟨rfl, hS6⟩
  have hS6 : ST w0 [] _ [⟨some ⟨b, 0, none⟩, 89, [.int .i64 x.A, .int .i64 x.B, .int .i64 x.C, .int .i64 x.D], 4⟩, ⟨some ⟨b1, 0, none⟩, 89, [.int .i64 y.A, .int .i64 y.B, .int .i64 y.C, .int .i64 y.D], 4⟩, ⟨some ⟨b2, 0, none⟩, 89, [.int .i64 r_2.A, .int .i64 r_2.B, .int .i64 r_2.C, .int .i64 r_2.D], 4⟩] [] := hS6
  refine sq 5 rfl rfl (Y_assign (v := .bool r_3) rfl rfl) ?_
  refine rw_nil ?_
  refine cw_ret ?_
  obtain ⟨rfl, rfl⟩ := pr2 (some_inj hF)
  exact ret2 Try.results166 (v1 := .agg #[.int .i64 r_2.A, .int .i64 r_2.B, .int .i64 r_2.C, .int .i64 r_2.D]) (resAt_cellA (B := some ⟨b2, 0, none⟩) (i := 0) (cs := [.int .i64 r_2.A, .int .i64 r_2.B, .int .i64 r_2.C, .int .i64 r_2.D]) (vs := [.int .i64 r_2.A, .int .i64 r_2.B, .int .i64 r_2.C, .int .i64 r_2.D]) rfl k_ag_89 k_sz_89_4 (hS6.cf (i := 2) rfl) rfl rfl) (v2 := .bool r_3) (resAt_tmp rfl) ⟨rfl, (ST.subR (R' := []) (hS6.sel [] rfl rfl) (fun _ h => by cases h))⟩

theorem c_impl_DivRootTwo (x : TRing)  (w0 : World)  (hS : ST w0 [] w0 [] []) {r_ : TRing} {r_1 : Bool} (hF : F_impl_DivRootTwo x = some (r_, r_1)) :
    CV Try.prog 203 #[.agg #[.int .i64 x.A, .int .i64 x.B, .int .i64 x.C, .int .i64 x.D]] w0 (fun v w' => v = .tuple #[.agg #[.int .i64 r_.A, .int .i64 r_.B, .int .i64 r_.C, .int .i64 r_.D], .bool r_1] ∧ ST w0 [] w' [] []) := by
  unfold F_impl_DivRootTwo at hF
  refine cv_of_cw 43 Try.func203 rfl Try.ntmps203 rfl ?_
  refine cw_seq ?_
  refine cw_region ?_
  refine ss 1 rfl rfl (Ys_box (T := 89) (v := .agg #[.int .i64 x.A, .int .i64 x.B, .int .i64 x.C, .int .i64 x.D]) (cs := [.int .i64 x.A, .int .i64 x.B, .int .i64 x.C, .int .i64 x.D]) (m := 4) hS rfl rfl rfl rfl) ?_
  rintro _ w_ ⟨b, rfl, hS1⟩
  refine ss 2 rfl rfl (Ys_alloc (T := 89) (cs := [.int .i64 0, .int .i64 0, .int .i64 0, .int .i64 0]) (m := 4) hS1 k_zero_89 rfl rfl rfl) ?_
  rintro _ w_1 ⟨b1, rfl, hS2⟩
  have hS2 : ST w0 [] _ [⟨some ⟨b, 0, none⟩, 89, [.int .i64 x.A, .int .i64 x.B, .int .i64 x.C, .int .i64 x.D], 4⟩, ⟨some ⟨b1, 0, none⟩, 89, [.int .i64 0, .int .i64 0, .int .i64 0, .int .i64 0], 4⟩] [] := hS2
  refine sq 3 rfl rfl (Y_assign (v := .bool false) rfl rfl) ?_
  refine rw_nil ?_
  refine cw_seq ?_
  refine cw_seq ?_
  refine cw_region ?_
  refine sq 4 rfl rfl (Y_loadA (B := some ⟨b, 0, none⟩) (i := 0) (cs := [.int .i64 x.A, .int .i64 x.B, .int .i64 x.C, .int .i64 x.D]) (vs := [.int .i64 x.A, .int .i64 x.B, .int .i64 x.C, .int .i64 x.D]) k_ag_89 k_sz_89_4 rfl rfl (hS2.cf (i := 0) rfl) rfl rfl) ?_
  obtain ⟨r_2, hc, hF⟩ := bind_inv hF
  refine sc 5 rfl rfl (Yc_func (g := 185) (vs := [.agg #[.int .i64 x.A, .int .i64 x.B, .int .i64 x.C, .int .i64 x.D]]) k_call_185 rfl (mc rfl mn) (c_impl_IsValidRing x _  (hS2.inn0 [] rfl) hc)) ?_
  rintro _ w_2 ⟨rfl, hd⟩
  have hS3 := hS2.out00 hd
  have hS3 : ST w0 [] _ [⟨some ⟨b, 0, none⟩, 89, [.int .i64 x.A, .int .i64 x.B, .int .i64 x.C, .int .i64 x.D], 4⟩, ⟨some ⟨b1, 0, none⟩, 89, [.int .i64 0, .int .i64 0, .int .i64 0, .int .i64 0], 4⟩] [] := hS3
  refine sq 6 rfl rfl (Y_not (p := r_2) rfl rfl) ?_
  refine sq 7 rfl rfl (Y_move (v := .bool (!r_2)) rfl rfl) ?_
  refine sgq 8 (B := (!(!r_2))) (v := .agg #[.int .i64 x.A, .int .i64 x.B, .int .i64 x.C, .int .i64 x.D]) rfl rfl (wt_f (gd_of (t := 7) (by kernel_rfl) rfl)) (fun hg => (Y_loadA (B := some ⟨b, 0, none⟩) (i := 0) (cs := [.int .i64 x.A, .int .i64 x.B, .int .i64 x.C, .int .i64 x.D]) (vs := [.int .i64 x.A, .int .i64 x.B, .int .i64 x.C, .int .i64 x.D]) k_ag_89 k_sz_89_4 rfl rfl (hS3.cf (i := 0) rfl) rfl rfl)) ?_
  obtain ⟨r_3, hc1, hF⟩ := bind_inv hF
  refine sgc 9 (B := (!(!r_2))) (v := .bool r_3) (F := hS3.fn) rfl rfl (wt_f (gd_of (t := 7) (by kernel_rfl) rfl)) hS3 (fun hg1 => (Yc_func (g := 186) (vs := [.agg #[.int .i64 x.A, .int .i64 x.B, .int .i64 x.C, .int .i64 x.D]]) k_call_186 rfl (mc (gv_of (B := (!(!r_2))) (v := .agg #[.int .i64 x.A, .int .i64 x.B, .int .i64 x.C, .int .i64 x.D]) hg1) mn) (CV.mono (c_impl_isEven x _  (hS3.inn0 [] rfl) (gb_inv hc1 hg1)) (by rintro _ _ ⟨rfl, h⟩; exact ⟨rfl, hS3.out00 h⟩)))) ?_
  rintro w_3 hS4
  have hS4 : ST _ _ w_3 _ _ := hS4
  refine sgq 10 (B := (!(!r_2))) (v := .bool (!r_3)) rfl rfl (wt_f (gd_of (t := 7) (by kernel_rfl) rfl)) (fun hg2 => (Y_not (p := r_3) rfl (gv_of (B := (!(!r_2))) (v := .bool r_3) hg2))) ?_
  refine sq 11 rfl rfl (Y_or (b := (!r_2)) (z := (!r_3)) rfl rfl rfl rfl) ?_
  refine rw_nil ?_
  refine cw_cond (b := ((!r_2) || (!r_3))) rfl (fun hb => ?_) (fun hb => ?_)
  · skip
    have hF1 := ct hF hb
    refine cw_seq ?_
    refine cw_region ?_
    refine sq 12 rfl rfl (Y_buildS (zs := [.int .i64 0, .int .i64 0, .int .i64 0, .int .i64 0]) (vs := []) (cs := [.int .i64 0, .int .i64 0, .int .i64 0, .int .i64 0]) k_pl_89 k_zero_89 rfl mpn rfl) ?_
    refine ss0 rfl rfl (Ys_store (i := 1) (s := 4) (B := some ⟨b1, 0, none⟩) (T' := 89) (v := .agg #[.int .i64 0, .int .i64 0, .int .i64 0, .int .i64 0]) (vs := [.int .i64 0, .int .i64 0, .int .i64 0, .int .i64 0]) (k := 0) (cs' := [.int .i64 0, .int .i64 0, .int .i64 0, .int .i64 0]) hS4 k_sz_89_4 rfl rfl rfl rfl rfl rfl rfl (Nat.le_of_ble_eq_true rfl) rfl rfl) ?_
    rintro _ w_4 ⟨rfl, hS5⟩
    have hS5 : ST w0 [] _ [⟨some ⟨b, 0, none⟩, 89, [.int .i64 x.A, .int .i64 x.B, .int .i64 x.C, .int .i64 x.D], 4⟩, ⟨some ⟨b1, 0, none⟩, 89, [.int .i64 0, .int .i64 0, .int .i64 0, .int .i64 0], 4⟩] [] := hS5
    refine sq 3 rfl rfl (Y_assign (v := .bool false) rfl rfl) ?_
    refine rw_nil ?_
    refine cw_ret ?_
    obtain ⟨rfl, rfl⟩ := pr2 (some_inj hF1)
    exact ret2 Try.results203 (v1 := .agg #[.int .i64 0, .int .i64 0, .int .i64 0, .int .i64 0]) (resAt_cellA (B := some ⟨b1, 0, none⟩) (i := 0) (cs := [.int .i64 0, .int .i64 0, .int .i64 0, .int .i64 0]) (vs := [.int .i64 0, .int .i64 0, .int .i64 0, .int .i64 0]) rfl k_ag_89 k_sz_89_4 (hS5.cf (i := 1) rfl) rfl rfl) (v2 := .bool false) (resAt_tmp rfl) ⟨rfl, (ST.subR (R' := []) (hS5.sel [] rfl rfl) (fun _ h => by cases h))⟩
  · skip
    have hF2 := cf' hF hb
    refine cw_skip ?_
    refine cw_seq ?_
    refine cw_region ?_
    refine sq 13 rfl rfl (Y_fieldAddr (B := some ⟨b, 0, none⟩) (i := 0) (s := 0) k_fd_89_1_1_3 k_sz_3_1 rfl rfl) ?_
    refine sq 14 rfl rfl (Y_load1 (B := some ⟨b, 0, none⟩) (i := 1) (cs := [.int .i64 x.A, .int .i64 x.B, .int .i64 x.C, .int .i64 x.D]) (v := .int .i64 x.B) k_sc_3 rfl rfl (hS4.cf (i := 0) rfl) rfl) ?_
    refine sq 15 rfl rfl (Y_fieldAddr (B := some ⟨b, 0, none⟩) (i := 0) (s := 0) k_fd_89_3_3_3 k_sz_3_1 rfl rfl) ?_
    refine sq 16 rfl rfl (Y_load1 (B := some ⟨b, 0, none⟩) (i := 3) (cs := [.int .i64 x.A, .int .i64 x.B, .int .i64 x.C, .int .i64 x.D]) (v := .int .i64 x.D) k_sc_3 rfl rfl (hS4.cf (i := 0) rfl) rfl) ?_
    refine sq 17 rfl rfl (Y_sub (k := .i64) (a := x.B) (b := x.D) rfl rfl rfl) ?_
    refine sq 18 rfl rfl (Y_quo (k := .i64) (a := (IntKind.i64.wrap (x.B - x.D))) (b := 2) rfl rfl rfl (by decide)) ?_
    refine sq 19 rfl rfl (Y_fieldAddr (B := some ⟨b, 0, none⟩) (i := 0) (s := 0) k_fd_89_0_0_3 k_sz_3_1 rfl rfl) ?_
    refine sq 20 rfl rfl (Y_load1 (B := some ⟨b, 0, none⟩) (i := 0) (cs := [.int .i64 x.A, .int .i64 x.B, .int .i64 x.C, .int .i64 x.D]) (v := .int .i64 x.A) k_sc_3 rfl rfl (hS4.cf (i := 0) rfl) rfl) ?_
    refine sq 21 rfl rfl (Y_fieldAddr (B := some ⟨b, 0, none⟩) (i := 0) (s := 0) k_fd_89_2_2_3 k_sz_3_1 rfl rfl) ?_
    refine sq 22 rfl rfl (Y_load1 (B := some ⟨b, 0, none⟩) (i := 2) (cs := [.int .i64 x.A, .int .i64 x.B, .int .i64 x.C, .int .i64 x.D]) (v := .int .i64 x.C) k_sc_3 rfl rfl (hS4.cf (i := 0) rfl) rfl) ?_
    refine sq 23 rfl rfl (Y_add (k := .i64) (a := x.A) (b := x.C) rfl rfl rfl) ?_
    refine sq 24 rfl rfl (Y_quo (k := .i64) (a := (IntKind.i64.wrap (x.A + x.C))) (b := 2) rfl rfl rfl (by decide)) ?_
    refine sq 25 rfl rfl (Y_fieldAddr (B := some ⟨b, 0, none⟩) (i := 0) (s := 0) k_fd_89_1_1_3 k_sz_3_1 rfl rfl) ?_
    refine sq 26 rfl rfl (Y_load1 (B := some ⟨b, 0, none⟩) (i := 1) (cs := [.int .i64 x.A, .int .i64 x.B, .int .i64 x.C, .int .i64 x.D]) (v := .int .i64 x.B) k_sc_3 rfl rfl (hS4.cf (i := 0) rfl) rfl) ?_
    refine sq 27 rfl rfl (Y_fieldAddr (B := some ⟨b, 0, none⟩) (i := 0) (s := 0) k_fd_89_3_3_3 k_sz_3_1 rfl rfl) ?_
    refine sq 28 rfl rfl (Y_load1 (B := some ⟨b, 0, none⟩) (i := 3) (cs := [.int .i64 x.A, .int .i64 x.B, .int .i64 x.C, .int .i64 x.D]) (v := .int .i64 x.D) k_sc_3 rfl rfl (hS4.cf (i := 0) rfl) rfl) ?_
    refine sq 29 rfl rfl (Y_add (k := .i64) (a := x.B) (b := x.D) rfl rfl rfl) ?_
    refine sq 30 rfl rfl (Y_quo (k := .i64) (a := (IntKind.i64.wrap (x.B + x.D))) (b := 2) rfl rfl rfl (by decide)) ?_
    refine sq 31 rfl rfl (Y_fieldAddr (B := some ⟨b, 0, none⟩) (i := 0) (s := 0) k_fd_89_2_2_3 k_sz_3_1 rfl rfl) ?_
    refine sq 32 rfl rfl (Y_load1 (B := some ⟨b, 0, none⟩) (i := 2) (cs := [.int .i64 x.A, .int .i64 x.B, .int .i64 x.C, .int .i64 x.D]) (v := .int .i64 x.C) k_sc_3 rfl rfl (hS4.cf (i := 0) rfl) rfl) ?_
    refine sq 33 rfl rfl (Y_fieldAddr (B := some ⟨b, 0, none⟩) (i := 0) (s := 0) k_fd_89_0_0_3 k_sz_3_1 rfl rfl) ?_
    refine sq 34 rfl rfl (Y_load1 (B := some ⟨b, 0, none⟩) (i := 0) (cs := [.int .i64 x.A, .int .i64 x.B, .int .i64 x.C, .int .i64 x.D]) (v := .int .i64 x.A) k_sc_3 rfl rfl (hS4.cf (i := 0) rfl) rfl) ?_
    refine sq 35 rfl rfl (Y_sub (k := .i64) (a := x.C) (b := x.A) rfl rfl rfl) ?_
    refine sq 36 rfl rfl (Y_quo (k := .i64) (a := (IntKind.i64.wrap (x.C - x.A))) (b := 2) rfl rfl rfl (by decide)) ?_
    refine sq 37 rfl rfl (Y_buildS (zs := [.int .i64 0, .int .i64 0, .int .i64 0, .int .i64 0]) (vs := [(0, .int .i64 (IntKind.i64.wrap (Int.tdiv (IntKind.i64.wrap (x.B - x.D)) 2))), (1, .int .i64 (IntKind.i64.wrap (Int.tdiv (IntKind.i64.wrap (x.A + x.C)) 2))), (2, .int .i64 (IntKind.i64.wrap (Int.tdiv (IntKind.i64.wrap (x.B + x.D)) 2))), (3, .int .i64 (IntKind.i64.wrap (Int.tdiv (IntKind.i64.wrap (x.C - x.A)) 2)))]) (cs := [.int .i64 (IntKind.i64.wrap (Int.tdiv (IntKind.i64.wrap (x.B - x.D)) 2)), .int .i64 (IntKind.i64.wrap (Int.tdiv (IntKind.i64.wrap (x.A + x.C)) 2)), .int .i64 (IntKind.i64.wrap (Int.tdiv (IntKind.i64.wrap (x.B + x.D)) 2)), .int .i64 (IntKind.i64.wrap (Int.tdiv (IntKind.i64.wrap (x.C - x.A)) 2))]) k_pl_89 k_zero_89 rfl (mpc rfl (mpc rfl (mpc rfl (mpc rfl mpn)))) rfl) ?_
    refine sq 38 rfl rfl (Y_loadA (B := some ⟨b, 0, none⟩) (i := 0) (cs := [.int .i64 x.A, .int .i64 x.B, .int .i64 x.C, .int .i64 x.D]) (vs := [.int .i64 x.A, .int .i64 x.B, .int .i64 x.C, .int .i64 x.D]) k_ag_89 k_sz_89_4 rfl rfl (hS4.cf (i := 0) rfl) rfl rfl) ?_
    refine ss 39 rfl rfl (Ys_bslice (s := 4) (len := 1) (vs := [(0, .agg #[.int .i64 x.A, .int .i64 x.B, .int .i64 x.C, .int .i64 x.D])]) (cs := [.int .i64 x.A, .int .i64 x.B, .int .i64 x.C, .int .i64 x.D]) (zs := [.int .i64 0, .int .i64 0, .int .i64 0, .int .i64 0]) (m := 4) hS4 k_sl_214_89 k_sz_89_4 k_zc_89 rfl (mpc rfl mpn) rfl rfl rfl rfl rfl rfl) ?_
    rintro _ w_5 ⟨b2, rfl, hS6⟩
    have hS6 : ST w0 [] _ [⟨some ⟨b, 0, none⟩, 89, [.int .i64 x.A, .int .i64 x.B, .int .i64 x.C, .int .i64 x.D], 4⟩, ⟨some ⟨b1, 0, none⟩, 89, [.int .i64 0, .int .i64 0, .int .i64 0, .int .i64 0], 4⟩, ⟨some ⟨b2, 0, none⟩, 89, ([x].flatMap enc_Ring), 1 * 4⟩] [] := hS6
    obtain ⟨⟨r_4, r_5⟩, hc2, hF2⟩ := bind_inv hF2
    refine sc 40 rfl rfl (Yc_func (g := 202) (vs := [.agg #[.int .i64 (IntKind.i64.wrap (Int.tdiv (IntKind.i64.wrap (x.B - x.D)) 2)), .int .i64 (IntKind.i64.wrap (Int.tdiv (IntKind.i64.wrap (x.A + x.C)) 2)), .int .i64 (IntKind.i64.wrap (Int.tdiv (IntKind.i64.wrap (x.B + x.D)) 2)), .int .i64 (IntKind.i64.wrap (Int.tdiv (IntKind.i64.wrap (x.C - x.A)) 2))], .slice (some ⟨b2, 0, none⟩) 1 1]) k_call_202 rfl (mc rfl (mc rfl mn)) (c_impl_ringIf (TRing.mk (IntKind.i64.wrap (Int.tdiv (IntKind.i64.wrap (x.B - x.D)) 2)) (IntKind.i64.wrap (Int.tdiv (IntKind.i64.wrap (x.A + x.C)) 2)) (IntKind.i64.wrap (Int.tdiv (IntKind.i64.wrap (x.B + x.D)) 2)) (IntKind.i64.wrap (Int.tdiv (IntKind.i64.wrap (x.C - x.A)) 2))) [x] (some ⟨b2, 0, none⟩) 1 1 _ rfl (hS6.inn [false, false, true] rfl [] rfl) hc2)) ?_
    rintro _ w_6 ⟨rfl, hd1⟩
    have hS7 := hS6.out [false, false, true] rfl hd1
    have hS7 : ST w0 [] _ [⟨some ⟨b, 0, none⟩, 89, [.int .i64 x.A, .int .i64 x.B, .int .i64 x.C, .int .i64 x.D], 4⟩, ⟨some ⟨b1, 0, none⟩, 89, [.int .i64 0, .int .i64 0, .int .i64 0, .int .i64 0], 4⟩] [] := hS7
    refine sq 41 rfl rfl (Y_extract (v := .agg #[.int .i64 r_4.A, .int .i64 r_4.B, .int .i64 r_4.C, .int .i64 r_4.D]) rfl rfl rfl) ?_
    refine sq 42 rfl rfl (Y_extract (v := .bool r_5) rfl rfl rfl) ?_
    refine ss0 rfl rfl (Ys_store (i := 1) (s := 4) (B := some ⟨b1, 0, none⟩) (T' := 89) (v := .agg #[.int .i64 r_4.A, .int .i64 r_4.B, .int .i64 r_4.C, .int .i64 r_4.D]) (vs := [.int .i64 r_4.A, .int .i64 r_4.B, .int .i64 r_4.C, .int .i64 r_4.D]) (k := 0) (cs' := [.int .i64 r_4.A, .int .i64 r_4.B, .int .i64 r_4.C, .int .i64 r_4.D]) hS7 k_sz_89_4 rfl rfl rfl rfl rfl rfl rfl (Nat.le_of_ble_eq_true rfl) rfl rfl) ?_
    rintro _ w_7 ⟨rfl, hS8⟩
    have hS8 : ST w0 [] _ [⟨some ⟨b, 0, none⟩, 89, [.int .i64 x.A, .int .i64 x.B, .int .i64 x.C, .int .i64 x.D], 4⟩, ⟨some ⟨b1, 0, none⟩, 89, [.int .i64 r_4.A, .int .i64 r_4.B, .int .i64 r_4.C, .int .i64 r_4.D], 4⟩] [] := hS8
    refine sq 3 rfl rfl (Y_assign (v := .bool r_5) rfl rfl) ?_
    refine rw_nil ?_
    refine cw_ret ?_
    obtain ⟨rfl, rfl⟩ := pr2 (some_inj hF2)
    exact ret2 Try.results203 (v1 := .agg #[.int .i64 r_4.A, .int .i64 r_4.B, .int .i64 r_4.C, .int .i64 r_4.D]) (resAt_cellA (B := some ⟨b1, 0, none⟩) (i := 0) (cs := [.int .i64 r_4.A, .int .i64 r_4.B, .int .i64 r_4.C, .int .i64 r_4.D]) (vs := [.int .i64 r_4.A, .int .i64 r_4.B, .int .i64 r_4.C, .int .i64 r_4.D]) rfl k_ag_89 k_sz_89_4 (hS8.cf (i := 1) rfl) rfl rfl) (v2 := .bool r_5) (resAt_tmp rfl) ⟨rfl, (ST.subR (R' := []) (hS8.sel [] rfl rfl) (fun _ h => by cases h))⟩

theorem c_impl_DyadicOf (num : TRing) (exp : Int)  (w0 : World)  (hS : ST w0 [] w0 [] []) {r_ : TDyadic} {r_1 : Bool} (hF : F_impl_DyadicOf num exp = some (r_, r_1)) :
    CV Try.prog 167 #[.agg #[.int .i64 num.A, .int .i64 num.B, .int .i64 num.C, .int .i64 num.D], .int .i64 exp] w0 (fun v w' => v = .tuple #[.agg #[.int .i64 r_.Num.A, .int .i64 r_.Num.B, .int .i64 r_.Num.C, .int .i64 r_.Num.D, .int .i64 r_.Exp], .bool r_1] ∧ ST w0 [] w' [] []) := by
  unfold F_impl_DyadicOf at hF
  refine cv_of_cw 31 Try.func167 rfl Try.ntmps167 rfl ?_
  refine cw_seq ?_
  refine cw_region ?_
  refine ss 2 rfl rfl (Ys_box (T := 89) (v := .agg #[.int .i64 num.A, .int .i64 num.B, .int .i64 num.C, .int .i64 num.D]) (cs := [.int .i64 num.A, .int .i64 num.B, .int .i64 num.C, .int .i64 num.D]) (m := 4) hS rfl rfl rfl rfl) ?_
  rintro _ w_ ⟨b, rfl, hS1⟩
  refine ss 4 rfl rfl (Ys_alloc (T := 91) (cs := [.int .i64 0, .int .i64 0, .int .i64 0, .int .i64 0, .int .i64 0]) (m := 5) hS1 k_zero_91 rfl rfl rfl) ?_
  rintro _ w_1 ⟨b1, rfl, hS2⟩
  have hS2 : ST w0 [] _ [⟨some ⟨b, 0, none⟩, 89, [.int .i64 num.A, .int .i64 num.B, .int .i64 num.C, .int .i64 num.D], 4⟩, ⟨some ⟨b1, 0, none⟩, 91, [.int .i64 0, .int .i64 0, .int .i64 0, .int .i64 0, .int .i64 0], 5⟩] [] := hS2
  refine sq 5 rfl rfl (Y_assign (v := .bool false) rfl rfl) ?_
  refine rw_nil ?_
  refine cw_seq ?_
  refine cw_seq ?_
  refine cw_region ?_
  refine sq 6 rfl rfl (Y_loadA (B := some ⟨b, 0, none⟩) (i := 0) (cs := [.int .i64 num.A, .int .i64 num.B, .int .i64 num.C, .int .i64 num.D]) (vs := [.int .i64 num.A, .int .i64 num.B, .int .i64 num.C, .int .i64 num.D]) k_ag_89 k_sz_89_4 rfl rfl (hS2.cf (i := 0) rfl) rfl rfl) ?_
  obtain ⟨r_2, hc, hF⟩ := bind_inv hF
  refine sc 7 rfl rfl (Yc_func (g := 185) (vs := [.agg #[.int .i64 num.A, .int .i64 num.B, .int .i64 num.C, .int .i64 num.D]]) k_call_185 rfl (mc rfl mn) (c_impl_IsValidRing num _  (hS2.inn0 [] rfl) hc)) ?_
  rintro _ w_2 ⟨rfl, hd⟩
  have hS3 := hS2.out00 hd
  have hS3 : ST w0 [] _ [⟨some ⟨b, 0, none⟩, 89, [.int .i64 num.A, .int .i64 num.B, .int .i64 num.C, .int .i64 num.D], 4⟩, ⟨some ⟨b1, 0, none⟩, 91, [.int .i64 0, .int .i64 0, .int .i64 0, .int .i64 0, .int .i64 0], 5⟩] [] := hS3
  refine sq 8 rfl rfl (Y_not (p := r_2) rfl rfl) ?_
  refine sq 9 rfl rfl (Y_move (v := .bool (!r_2)) rfl rfl) ?_
  refine sgq 10 (B := (!(!r_2))) (v := .int .i64 exp) rfl rfl (wt_f (gd_of (t := 9) (by kernel_rfl) rfl)) (fun hg => (Y_move (v := .int .i64 exp) rfl rfl)) ?_
  obtain ⟨r_3, hc1, hF⟩ := bind_inv hF
  refine sgc 11 (B := (!(!r_2))) (v := .bool r_3) (F := hS3.fn) rfl rfl (wt_f (gd_of (t := 9) (by kernel_rfl) rfl)) hS3 (fun hg1 => (Yc_func (g := 145) (vs := [.int .i64 exp, .int .i64 0, .int .i64 60]) k_call_145 rfl (mc (gv_of (B := (!(!r_2))) (v := .int .i64 exp) hg1) (mc rfl (mc rfl mn))) (CV.mono (c_impl_within exp 0 60 _  (hS3.inn0 [] rfl) (gb_inv hc1 hg1)) (by rintro _ _ ⟨rfl, h⟩; exact ⟨rfl, hS3.out00 h⟩)))) ?_
  rintro w_3 hS4
  have hS4 : ST _ _ w_3 _ _ := hS4
  refine sgq 12 (B := (!(!r_2))) (v := .bool (!r_3)) rfl rfl (wt_f (gd_of (t := 9) (by kernel_rfl) rfl)) (fun hg2 => (Y_not (p := r_3) rfl (gv_of (B := (!(!r_2))) (v := .bool r_3) hg2))) ?_
  refine sq 13 rfl rfl (Y_or (b := (!r_2)) (z := (!r_3)) rfl rfl rfl rfl) ?_
  refine rw_nil ?_
  refine cw_cond (b := ((!r_2) || (!r_3))) rfl (fun hb => ?_) (fun hb => ?_)
  · skip
    have hF1 := ct hF hb
    refine cw_seq ?_
    refine cw_region ?_
    refine sq 14 rfl rfl (Y_buildS (zs := [.int .i64 0, .int .i64 0, .int .i64 0, .int .i64 0, .int .i64 0]) (vs := []) (cs := [.int .i64 0, .int .i64 0, .int .i64 0, .int .i64 0, .int .i64 0]) k_pl_91 k_zero_91 rfl mpn rfl) ?_
    refine ss0 rfl rfl (Ys_store (i := 1) (s := 5) (B := some ⟨b1, 0, none⟩) (T' := 91) (v := .agg #[.int .i64 0, .int .i64 0, .int .i64 0, .int .i64 0, .int .i64 0]) (vs := [.int .i64 0, .int .i64 0, .int .i64 0, .int .i64 0, .int .i64 0]) (k := 0) (cs' := [.int .i64 0, .int .i64 0, .int .i64 0, .int .i64 0, .int .i64 0]) hS4 k_sz_91_5 rfl rfl rfl rfl rfl rfl rfl (Nat.le_of_ble_eq_true rfl) rfl rfl) ?_
    rintro _ w_4 ⟨rfl, hS5⟩
    have hS5 : ST w0 [] _ [⟨some ⟨b, 0, none⟩, 89, [.int .i64 num.A, .int .i64 num.B, .int .i64 num.C, .int .i64 num.D], 4⟩, ⟨some ⟨b1, 0, none⟩, 91, [.int .i64 0, .int .i64 0, .int .i64 0, .int .i64 0, .int .i64 0], 5⟩] [] := hS5
    refine sq 5 rfl rfl (Y_assign (v := .bool false) rfl rfl) ?_
    refine rw_nil ?_
    refine cw_ret ?_
    obtain ⟨rfl, rfl⟩ := pr2 (some_inj hF1)
    exact ret2 Try.results167 (v1 := .agg #[.int .i64 0, .int .i64 0, .int .i64 0, .int .i64 0, .int .i64 0]) (resAt_cellA (B := some ⟨b1, 0, none⟩) (i := 0) (cs := [.int .i64 0, .int .i64 0, .int .i64 0, .int .i64 0, .int .i64 0]) (vs := [.int .i64 0, .int .i64 0, .int .i64 0, .int .i64 0, .int .i64 0]) rfl k_ag_91 k_sz_91_5 (hS5.cf (i := 1) rfl) rfl rfl) (v2 := .bool false) (resAt_tmp rfl) ⟨rfl, (ST.subR (R' := []) (hS5.sel [] rfl rfl) (fun _ h => by cases h))⟩
  · skip
    have hF2 := cf' hF hb
    refine cw_skip ?_
    refine cw_seq ?_
    obtain ⟨z, hz, hF3⟩ := bind_inv hF2
    refine cw_block ?_
    refine cw_loop (fun k f w => ∃ (exp1 : Int) (A : Int) (B : Int) (C : Int) (D : Int), FF f [(1, .int .i64 exp1), (2, pt (some ⟨b, 0, none⟩) 0), (4, pt (some ⟨b1, 0, none⟩) 0)] ∧ ST w0 [] w [⟨some ⟨b, 0, none⟩, 89, [.int .i64 A, .int .i64 B, .int .i64 C, .int .i64 D], 4⟩, ⟨some ⟨b1, 0, none⟩, 91, [.int .i64 0, .int .i64 0, .int .i64 0, .int .i64 0, .int .i64 0], 5⟩] [] ∧ whX F_impl_DyadicOf_l1 k (exp1, A, B, C, D) = some z) fuel ⟨exp, num.A, num.B, num.C, num.D, (FF.cons rfl (FF.cons rfl (FF.cons rfl FF.nil))), (hS4.sel [0, 1] rfl rfl), hz⟩ ?_
    rintro k_ f w ⟨exp1, A, B, C, D, hf, hS6, hL⟩
    obtain ⟨k_1, y, rfl, hb1, hL1⟩ := whX_go hL
    unfold F_impl_DyadicOf_l1 at hb1
    refine cw_seq ?_
    refine cw_seq ?_
    refine cw_region ?_
    refine sq 15 rfl rfl (Y_move (v := .int .i64 exp1) rfl (hf.get 1 0 rfl)) ?_
    refine sq 16 rfl rfl (Y_gt (k := .i64) (a := exp1) (b := 0) rfl rfl rfl) ?_
    refine sq 17 rfl rfl (Y_move (v := .bool (decide (0 < exp1))) rfl rfl) ?_
    refine sgq 18 (B := (decide (0 < exp1))) (v := .agg #[.int .i64 A, .int .i64 B, .int .i64 C, .int .i64 D]) rfl rfl (wt_t (gd_of (t := 17) (by kernel_rfl) rfl)) (fun hg3 => (Y_loadA (B := some ⟨b, 0, none⟩) (i := 0) (cs := [.int .i64 A, .int .i64 B, .int .i64 C, .int .i64 D]) (vs := [.int .i64 A, .int .i64 B, .int .i64 C, .int .i64 D]) k_ag_89 k_sz_89_4 rfl (hf.get 2 1 rfl) (hS6.cf (i := 0) rfl) rfl rfl)) ?_
    obtain ⟨r_4, hc2, hb1⟩ := bind_inv hb1
    refine sgc 19 (B := (decide (0 < exp1))) (v := .bool r_4) (F := hS6.fn) rfl rfl (wt_t (gd_of (t := 17) (by kernel_rfl) rfl)) hS6 (fun hg4 => (Yc_func (g := 186) (vs := [.agg #[.int .i64 A, .int .i64 B, .int .i64 C, .int .i64 D]]) k_call_186 rfl (mc (gv_of (B := (decide (0 < exp1))) (v := .agg #[.int .i64 A, .int .i64 B, .int .i64 C, .int .i64 D]) hg4) mn) (CV.mono (c_impl_isEven (TRing.mk A B C D) _  (hS6.inn0 [] rfl) (gb_inv hc2 hg4)) (by rintro _ _ ⟨rfl, h⟩; exact ⟨rfl, hS6.out00 h⟩)))) ?_
    rintro w_5 hS7
    have hS7 : ST _ _ w_5 _ _ := hS7
    refine sq 20 rfl rfl (Y_and (b := (decide (0 < exp1))) (z := r_4) rfl rfl rfl rfl) ?_
    refine rw_nil ?_
    refine cw_cond (b := ((decide (0 < exp1)) && r_4)) rfl (fun hb2 => ?_) (fun hb2 => ?_)
    · skip
      have hF4 := ct hb1 hb2
      refine cw_skip ?_
      refine cw_block ?_
      refine cw_seq ?_
      refine cw_region ?_
      refine sq 22 rfl rfl (Y_loadA (B := some ⟨b, 0, none⟩) (i := 0) (cs := [.int .i64 A, .int .i64 B, .int .i64 C, .int .i64 D]) (vs := [.int .i64 A, .int .i64 B, .int .i64 C, .int .i64 D]) k_ag_89 k_sz_89_4 rfl (hf.get 2 1 rfl) (hS7.cf (i := 0) rfl) rfl rfl) ?_
      obtain ⟨⟨r_5, r_6⟩, hc3, hF4⟩ := bind_inv hF4
      refine sc 23 rfl rfl (Yc_func (g := 203) (vs := [.agg #[.int .i64 A, .int .i64 B, .int .i64 C, .int .i64 D]]) k_call_203 rfl (mc rfl mn) (c_impl_DivRootTwo (TRing.mk A B C D) _  (hS7.inn0 [] rfl) hc3)) ?_
      rintro _ w_6 ⟨rfl, hd1⟩
      have hS8 := hS7.out00 hd1
      have hS8 : ST w0 [] _ [⟨some ⟨b, 0, none⟩, 89, [.int .i64 A, .int .i64 B, .int .i64 C, .int .i64 D], 4⟩, ⟨some ⟨b1, 0, none⟩, 91, [.int .i64 0, .int .i64 0, .int .i64 0, .int .i64 0, .int .i64 0], 5⟩] [] := hS8
      refine sq 21 rfl rfl (Y_move (v := .tuple #[.agg #[.int .i64 r_5.A, .int .i64 r_5.B, .int .i64 r_5.C, .int .i64 r_5.D], .bool r_6]) rfl rfl) ?_
      refine sq 24 rfl rfl (Y_extract (v := .agg #[.int .i64 r_5.A, .int .i64 r_5.B, .int .i64 r_5.C, .int .i64 r_5.D]) rfl rfl rfl) ?_
      refine sq 25 rfl rfl (Y_extract (v := .bool r_6) rfl rfl rfl) ?_
      refine ss0 rfl rfl (Ys_store (i := 0) (s := 4) (B := some ⟨b, 0, none⟩) (T' := 89) (v := .agg #[.int .i64 r_5.A, .int .i64 r_5.B, .int .i64 r_5.C, .int .i64 r_5.D]) (vs := [.int .i64 r_5.A, .int .i64 r_5.B, .int .i64 r_5.C, .int .i64 r_5.D]) (k := 0) (cs' := [.int .i64 r_5.A, .int .i64 r_5.B, .int .i64 r_5.C, .int .i64 r_5.D]) hS8 k_sz_89_4 rfl (hf.get 2 1 rfl) rfl rfl rfl rfl rfl (Nat.le_of_ble_eq_true rfl) rfl rfl) ?_
      rintro _ w_7 ⟨rfl, hS9⟩
      have hS9 : ST w0 [] _ [⟨some ⟨b, 0, none⟩, 89, [.int .i64 r_5.A, .int .i64 r_5.B, .int .i64 r_5.C, .int .i64 r_5.D], 4⟩, ⟨some ⟨b1, 0, none⟩, 91, [.int .i64 0, .int .i64 0, .int .i64 0, .int .i64 0, .int .i64 0], 5⟩] [] := hS9
      refine rw_nil ?_
      refine cw_region ?_
      refine sq 26 rfl rfl (Y_move (v := .int .i64 exp1) rfl (hf.get 1 0 rfl)) ?_
      refine sq 27 rfl rfl (Y_sub (k := .i64) (a := exp1) (b := 1) rfl rfl rfl) ?_
      refine sq 1 rfl rfl (Y_assign (v := .int .i64 (IntKind.i64.wrap (exp1 - 1))) rfl rfl) ?_
      refine rw_nil ?_
      obtain rfl := some_inj hF4
      exact ⟨k_1, Nat.lt_succ_self _, (IntKind.i64.wrap (exp1 - 1)), r_5.A, r_5.B, r_5.C, r_5.D, (FF.cons rfl (FF.cons (hf.get 2 1 rfl) (FF.cons (hf.get 4 2 rfl) FF.nil))), (hS9.sel [0, 1] rfl rfl), hL1⟩
    · skip
      have hF5 := cf' hb1 hb2
      refine cw_exit rfl ?_
      obtain rfl := some_inj hF5
      obtain rfl := some_inj hL1
      refine cw_seq ?_
      refine cw_region ?_
      refine sq 28 rfl rfl (Y_loadA (B := some ⟨b, 0, none⟩) (i := 0) (cs := [.int .i64 A, .int .i64 B, .int .i64 C, .int .i64 D]) (vs := [.int .i64 A, .int .i64 B, .int .i64 C, .int .i64 D]) k_ag_89 k_sz_89_4 rfl (hf.get 2 1 rfl) (hS7.cf (i := 0) rfl) rfl rfl) ?_
      refine sq 29 rfl rfl (Y_move (v := .int .i64 exp1) rfl (hf.get 1 0 rfl)) ?_
      refine sq 30 rfl rfl (Y_buildS (zs := [.int .i64 0, .int .i64 0, .int .i64 0, .int .i64 0, .int .i64 0]) (vs := [(0, .agg #[.int .i64 A, .int .i64 B, .int .i64 C, .int .i64 D]), (1, .int .i64 exp1)]) (cs := [.int .i64 A, .int .i64 B, .int .i64 C, .int .i64 D, .int .i64 exp1]) k_pl_91 k_zero_91 rfl (mpc rfl (mpc rfl mpn)) rfl) ?_
      refine ss0 rfl rfl (Ys_store (i := 1) (s := 5) (B := some ⟨b1, 0, none⟩) (T' := 91) (v := .agg #[.int .i64 A, .int .i64 B, .int .i64 C, .int .i64 D, .int .i64 exp1]) (vs := [.int .i64 A, .int .i64 B, .int .i64 C, .int .i64 D, .int .i64 exp1]) (k := 0) (cs' := [.int .i64 A, .int .i64 B, .int .i64 C, .int .i64 D, .int .i64 exp1]) hS7 k_sz_91_5 rfl (hf.get 4 2 rfl) rfl rfl rfl rfl rfl (Nat.le_of_ble_eq_true rfl) rfl rfl) ?_
      rintro _ w_8 ⟨rfl, hS10⟩
      have hS10 : ST w0 [] _ [⟨some ⟨b, 0, none⟩, 89, [.int .i64 A, .int .i64 B, .int .i64 C, .int .i64 D], 4⟩, ⟨some ⟨b1, 0, none⟩, 91, [.int .i64 A, .int .i64 B, .int .i64 C, .int .i64 D, .int .i64 exp1], 5⟩] [] := hS10
      refine sq 5 rfl rfl (Y_assign (v := .bool true) rfl rfl) ?_
      refine rw_nil ?_
      refine cw_ret ?_
      obtain ⟨rfl, rfl⟩ := pr2 (some_inj hF3)
      exact ret2 Try.results167 (v1 := .agg #[.int .i64 A, .int .i64 B, .int .i64 C, .int .i64 D, .int .i64 exp1]) (resAt_cellA (B := some ⟨b1, 0, none⟩) (i := 0) (cs := [.int .i64 A, .int .i64 B, .int .i64 C, .int .i64 D, .int .i64 exp1]) (vs := [.int .i64 A, .int .i64 B, .int .i64 C, .int .i64 D, .int .i64 exp1]) (hf.get 4 2 rfl) k_ag_91 k_sz_91_5 (hS10.cf (i := 1) rfl) rfl rfl) (v2 := .bool true) (resAt_tmp rfl) ⟨rfl, (ST.subR (R' := []) (hS10.sel [] rfl rfl) (fun _ h => by cases h))⟩

theorem c_impl_MulDyadic (x : TDyadic) (y : TDyadic)  (w0 : World)  (hS : ST w0 [] w0 [] []) {r_ : TDyadic} {r_1 : Bool} (hF : F_impl_MulDyadic x y = some (r_, r_1)) :
    CV Try.prog 112 #[.agg #[.int .i64 x.Num.A, .int .i64 x.Num.B, .int .i64 x.Num.C, .int .i64 x.Num.D, .int .i64 x.Exp], .agg #[.int .i64 y.Num.A, .int .i64 y.Num.B, .int .i64 y.Num.C, .int .i64 y.Num.D, .int .i64 y.Exp]] w0 (fun v w' => v = .tuple #[.agg #[.int .i64 r_.Num.A, .int .i64 r_.Num.B, .int .i64 r_.Num.C, .int .i64 r_.Num.D, .int .i64 r_.Exp], .bool r_1] ∧ ST w0 [] w' [] []) := by
  unfold F_impl_MulDyadic at hF
  refine cv_of_cw 38 Try.func112 rfl Try.ntmps112 rfl ?_
  refine cw_seq ?_
  refine cw_region ?_
  refine ss 2 rfl rfl (Ys_box (T := 91) (v := .agg #[.int .i64 x.Num.A, .int .i64 x.Num.B, .int .i64 x.Num.C, .int .i64 x.Num.D, .int .i64 x.Exp]) (cs := [.int .i64 x.Num.A, .int .i64 x.Num.B, .int .i64 x.Num.C, .int .i64 x.Num.D, .int .i64 x.Exp]) (m := 5) hS rfl rfl rfl rfl) ?_
  rintro _ w_ ⟨b, rfl, hS1⟩
  refine ss 3 rfl rfl (Ys_box (T := 91) (v := .agg #[.int .i64 y.Num.A, .int .i64 y.Num.B, .int .i64 y.Num.C, .int .i64 y.Num.D, .int .i64 y.Exp]) (cs := [.int .i64 y.Num.A, .int .i64 y.Num.B, .int .i64 y.Num.C, .int .i64 y.Num.D, .int .i64 y.Exp]) (m := 5) hS1 rfl rfl rfl rfl) ?_
  rintro _ w_1 ⟨b1, rfl, hS2⟩
  have hS2 : ST w0 [] _ [⟨some ⟨b, 0, none⟩, 91, [.int .i64 x.Num.A, .int .i64 x.Num.B, .int .i64 x.Num.C, .int .i64 x.Num.D, .int .i64 x.Exp], 5⟩, ⟨some ⟨b1, 0, none⟩, 91, [.int .i64 y.Num.A, .int .i64 y.Num.B, .int .i64 y.Num.C, .int .i64 y.Num.D, .int .i64 y.Exp], 5⟩] [] := hS2
  refine ss 4 rfl rfl (Ys_alloc (T := 91) (cs := [.int .i64 0, .int .i64 0, .int .i64 0, .int .i64 0, .int .i64 0]) (m := 5) hS2 k_zero_91 rfl rfl rfl) ?_
  rintro _ w_2 ⟨b2, rfl, hS3⟩
  have hS3 : ST w0 [] _ [⟨some ⟨b, 0, none⟩, 91, [.int .i64 x.Num.A, .int .i64 x.Num.B, .int .i64 x.Num.C, .int .i64 x.Num.D, .int .i64 x.Exp], 5⟩, ⟨some ⟨b1, 0, none⟩, 91, [.int .i64 y.Num.A, .int .i64 y.Num.B, .int .i64 y.Num.C, .int .i64 y.Num.D, .int .i64 y.Exp], 5⟩, ⟨some ⟨b2, 0, none⟩, 91, [.int .i64 0, .int .i64 0, .int .i64 0, .int .i64 0, .int .i64 0], 5⟩] [] := hS3
  refine sq 5 rfl rfl (Y_assign (v := .bool false) rfl rfl) ?_
  refine rw_nil ?_
  refine cw_seq ?_
  refine cw_region ?_
  refine sq 9 rfl rfl (Y_fieldAddr (B := some ⟨b, 0, none⟩) (i := 0) (s := 3) k_fd_91_0_0_89 k_sz_89_4 rfl rfl) ?_
  refine sq 10 rfl rfl (Y_loadA (B := some ⟨b, 0, none⟩) (i := 0) (cs := [.int .i64 x.Num.A, .int .i64 x.Num.B, .int .i64 x.Num.C, .int .i64 x.Num.D, .int .i64 x.Exp]) (vs := [.int .i64 x.Num.A, .int .i64 x.Num.B, .int .i64 x.Num.C, .int .i64 x.Num.D]) k_ag_89 k_sz_89_4 rfl rfl (hS3.cf (i := 0) rfl) rfl rfl) ?_
  refine sq 11 rfl rfl (Y_fieldAddr (B := some ⟨b1, 0, none⟩) (i := 0) (s := 3) k_fd_91_0_0_89 k_sz_89_4 rfl rfl) ?_
  refine sq 12 rfl rfl (Y_loadA (B := some ⟨b1, 0, none⟩) (i := 0) (cs := [.int .i64 y.Num.A, .int .i64 y.Num.B, .int .i64 y.Num.C, .int .i64 y.Num.D, .int .i64 y.Exp]) (vs := [.int .i64 y.Num.A, .int .i64 y.Num.B, .int .i64 y.Num.C, .int .i64 y.Num.D]) k_ag_89 k_sz_89_4 rfl rfl (hS3.cf (i := 1) rfl) rfl rfl) ?_
  obtain ⟨⟨r_2, r_3⟩, hc, hF⟩ := bind_inv hF
  refine sc 13 rfl rfl (Yc_func (g := 166) (vs := [.agg #[.int .i64 x.Num.A, .int .i64 x.Num.B, .int .i64 x.Num.C, .int .i64 x.Num.D], .agg #[.int .i64 y.Num.A, .int .i64 y.Num.B, .int .i64 y.Num.C, .int .i64 y.Num.D]]) k_call_166 rfl (mc rfl (mc rfl mn)) (c_impl_MulRing x.Num y.Num _  (hS3.inn0 [] rfl) hc)) ?_
  rintro _ w_3 ⟨rfl, hd⟩
  have hS4 := hS3.out00 hd
  have hS4 : ST w0 [] _ [⟨some ⟨b, 0, none⟩, 91, [.int .i64 x.Num.A, .int .i64 x.Num.B, .int .i64 x.Num.C, .int .i64 x.Num.D, .int .i64 x.Exp], 5⟩, ⟨some ⟨b1, 0, none⟩, 91, [.int .i64 y.Num.A, .int .i64 y.Num.B, .int .i64 y.Num.C, .int .i64 y.Num.D, .int .i64 y.Exp], 5⟩, ⟨some ⟨b2, 0, none⟩, 91, [.int .i64 0, .int .i64 0, .int .i64 0, .int .i64 0, .int .i64 0], 5⟩] [] := hS4
  refine sq 8 rfl rfl (Y_move (v := .tuple #[.agg #[.int .i64 r_2.A, .int .i64 r_2.B, .int .i64 r_2.C, .int .i64 r_2.D], .bool r_3]) rfl rfl) ?_
  refine sq 14 rfl rfl (Y_extract (v := .agg #[.int .i64 r_2.A, .int .i64 r_2.B, .int .i64 r_2.C, .int .i64 r_2.D]) rfl rfl rfl) ?_
  refine sq 15 rfl rfl (Y_extract (v := .bool r_3) rfl rfl rfl) ?_
  refine ss 6 rfl rfl (Ys_alloc (T := 89) (cs := [.int .i64 0, .int .i64 0, .int .i64 0, .int .i64 0]) (m := 4) hS4 k_zero_89 rfl rfl rfl) ?_
  rintro _ w_4 ⟨b3, rfl, hS5⟩
  have hS5 : ST w0 [] _ [⟨some ⟨b, 0, none⟩, 91, [.int .i64 x.Num.A, .int .i64 x.Num.B, .int .i64 x.Num.C, .int .i64 x.Num.D, .int .i64 x.Exp], 5⟩, ⟨some ⟨b1, 0, none⟩, 91, [.int .i64 y.Num.A, .int .i64 y.Num.B, .int .i64 y.Num.C, .int .i64 y.Num.D, .int .i64 y.Exp], 5⟩, ⟨some ⟨b2, 0, none⟩, 91, [.int .i64 0, .int .i64 0, .int .i64 0, .int .i64 0, .int .i64 0], 5⟩, ⟨some ⟨b3, 0, none⟩, 89, [.int .i64 0, .int .i64 0, .int .i64 0, .int .i64 0], 4⟩] [] := hS5
  refine ss0 rfl rfl (Ys_store (i := 3) (s := 4) (B := some ⟨b3, 0, none⟩) (T' := 89) (v := .agg #[.int .i64 r_2.A, .int .i64 r_2.B, .int .i64 r_2.C, .int .i64 r_2.D]) (vs := [.int .i64 r_2.A, .int .i64 r_2.B, .int .i64 r_2.C, .int .i64 r_2.D]) (k := 0) (cs' := [.int .i64 r_2.A, .int .i64 r_2.B, .int .i64 r_2.C, .int .i64 r_2.D]) hS5 k_sz_89_4 rfl rfl rfl rfl rfl rfl rfl (Nat.le_of_ble_eq_true rfl) rfl rfl) ?_
  rintro _ w_5 ⟨rfl, hS6⟩
  have hS6 : ST w0 [] _ [⟨some ⟨b, 0, none⟩, 91, [.int .i64 x.Num.A, .int .i64 x.Num.B, .int .i64 x.Num.C, .int .i64 x.Num.D, .int .i64 x.Exp], 5⟩, ⟨some ⟨b1, 0, none⟩, 91, [.int .i64 y.Num.A, .int .i64 y.Num.B, .int .i64 y.Num.C, .int .i64 y.Num.D, .int .i64 y.Exp], 5⟩, ⟨some ⟨b2, 0, none⟩, 91, [.int .i64 0, .int .i64 0, .int .i64 0, .int .i64 0, .int .i64 0], 5⟩, ⟨some ⟨b3, 0, none⟩, 89, [.int .i64 r_2.A, .int .i64 r_2.B, .int .i64 r_2.C, .int .i64 r_2.D], 4⟩] [] := hS6
  refine sq 7 rfl rfl (Y_assign (v := .bool r_3) rfl rfl) ?_
  refine rw_nil ?_
  refine cw_seq ?_
  refine cw_seq ?_
  refine cw_region ?_
  refine sq 16 rfl rfl (Y_loadA (B := some ⟨b, 0, none⟩) (i := 0) (cs := [.int .i64 x.Num.A, .int .i64 x.Num.B, .int .i64 x.Num.C, .int .i64 x.Num.D, .int .i64 x.Exp]) (vs := [.int .i64 x.Num.A, .int .i64 x.Num.B, .int .i64 x.Num.C, .int .i64 x.Num.D, .int .i64 x.Exp]) k_ag_91 k_sz_91_5 rfl rfl (hS6.cf (i := 0) rfl) rfl rfl) ?_
  obtain ⟨r_4, hc1, hF⟩ := bind_inv hF
  refine sc 17 rfl rfl (Yc_func (g := 134) (vs := [.agg #[.int .i64 x.Num.A, .int .i64 x.Num.B, .int .i64 x.Num.C, .int .i64 x.Num.D, .int .i64 x.Exp]]) k_call_134 rfl (mc rfl mn) (c_impl_IsValidDyadic x _  (hS6.inn0 [] rfl) hc1)) ?_
  rintro _ w_6 ⟨rfl, hd1⟩
  have hS7 := hS6.out00 hd1
  have hS7 : ST w0 [] _ [⟨some ⟨b, 0, none⟩, 91, [.int .i64 x.Num.A, .int .i64 x.Num.B, .int .i64 x.Num.C, .int .i64 x.Num.D, .int .i64 x.Exp], 5⟩, ⟨some ⟨b1, 0, none⟩, 91, [.int .i64 y.Num.A, .int .i64 y.Num.B, .int .i64 y.Num.C, .int .i64 y.Num.D, .int .i64 y.Exp], 5⟩, ⟨some ⟨b2, 0, none⟩, 91, [.int .i64 0, .int .i64 0, .int .i64 0, .int .i64 0, .int .i64 0], 5⟩, ⟨some ⟨b3, 0, none⟩, 89, [.int .i64 r_2.A, .int .i64 r_2.B, .int .i64 r_2.C, .int .i64 r_2.D], 4⟩] [] := hS7
  refine sq 18 rfl rfl (Y_not (p := r_4) rfl rfl) ?_
  refine sq 19 rfl rfl (Y_move (v := .bool (!r_4)) rfl rfl) ?_
  refine sgq 20 (B := (!(!r_4))) (v := .agg #[.int .i64 y.Num.A, .int .i64 y.Num.B, .int .i64 y.Num.C, .int .i64 y.Num.D, .int .i64 y.Exp]) rfl rfl (wt_f (gd_of (t := 19) (by kernel_rfl) rfl)) (fun hg => (Y_loadA (B := some ⟨b1, 0, none⟩) (i := 0) (cs := [.int .i64 y.Num.A, .int .i64 y.Num.B, .int .i64 y.Num.C, .int .i64 y.Num.D, .int .i64 y.Exp]) (vs := [.int .i64 y.Num.A, .int .i64 y.Num.B, .int .i64 y.Num.C, .int .i64 y.Num.D, .int .i64 y.Exp]) k_ag_91 k_sz_91_5 rfl rfl (hS7.cf (i := 1) rfl) rfl rfl)) ?_
  obtain ⟨r_5, hc2, hF⟩ := bind_inv hF
  refine sgc 21 (B := (!(!r_4))) (v := .bool r_5) (F := hS7.fn) rfl rfl (wt_f (gd_of (t := 19) (by kernel_rfl) rfl)) hS7 (fun hg1 => (Yc_func (g := 134) (vs := [.agg #[.int .i64 y.Num.A, .int .i64 y.Num.B, .int .i64 y.Num.C, .int .i64 y.Num.D, .int .i64 y.Exp]]) k_call_134 rfl (mc (gv_of (B := (!(!r_4))) (v := .agg #[.int .i64 y.Num.A, .int .i64 y.Num.B, .int .i64 y.Num.C, .int .i64 y.Num.D, .int .i64 y.Exp]) hg1) mn) (CV.mono (c_impl_IsValidDyadic y _  (hS7.inn0 [] rfl) (gb_inv hc2 hg1)) (by rintro _ _ ⟨rfl, h⟩; exact ⟨rfl, hS7.out00 h⟩)))) ?_
  rintro w_7 hS8
  have hS8 : ST _ _ w_7 _ _ := hS8
  refine sgq 22 (B := (!(!r_4))) (v := .bool (!r_5)) rfl rfl (wt_f (gd_of (t := 19) (by kernel_rfl) rfl)) (fun hg2 => (Y_not (p := r_5) rfl (gv_of (B := (!(!r_4))) (v := .bool r_5) hg2))) ?_
  refine sq 23 rfl rfl (Y_or (b := (!r_4)) (z := (!r_5)) rfl rfl rfl rfl) ?_
  refine sq 24 rfl rfl (Y_move (v := .bool ((!r_4) || (!r_5))) rfl rfl) ?_
  refine sgq 25 (B := (!((!r_4) || (!r_5)))) (v := .bool r_3) rfl rfl (wt_f (gd_of (t := 24) (by kernel_rfl) rfl)) (fun hg3 => (Y_move (v := .bool r_3) rfl rfl)) ?_
  refine sgq 26 (B := (!((!r_4) || (!r_5)))) (v := .bool (!r_3)) rfl rfl (wt_f (gd_of (t := 24) (by kernel_rfl) rfl)) (fun hg4 => (Y_not (p := r_3) rfl (gv_of (B := (!((!r_4) || (!r_5)))) (v := .bool r_3) hg4))) ?_
  refine sq 27 rfl rfl (Y_or (b := ((!r_4) || (!r_5))) (z := (!r_3)) rfl rfl rfl rfl) ?_
  refine rw_nil ?_
  refine cw_cond (b := (((!r_4) || (!r_5)) || (!r_3))) rfl (fun hb => ?_) (fun hb => ?_)
  · skip
    have hF1 := ct hF hb
    refine cw_seq ?_
    refine cw_region ?_
    refine sq 28 rfl rfl (Y_buildS (zs := [.int .i64 0, .int .i64 0, .int .i64 0, .int .i64 0, .int .i64 0]) (vs := []) (cs := [.int .i64 0, .int .i64 0, .int .i64 0, .int .i64 0, .int .i64 0]) k_pl_91 k_zero_91 rfl mpn rfl) ?_
    refine ss0 rfl rfl (Ys_store (i := 2) (s := 5) (B := some ⟨b2, 0, none⟩) (T' := 91) (v := .agg #[.int .i64 0, .int .i64 0, .int .i64 0, .int .i64 0, .int .i64 0]) (vs := [.int .i64 0, .int .i64 0, .int .i64 0, .int .i64 0, .int .i64 0]) (k := 0) (cs' := [.int .i64 0, .int .i64 0, .int .i64 0, .int .i64 0, .int .i64 0]) hS8 k_sz_91_5 rfl rfl rfl rfl rfl rfl rfl (Nat.le_of_ble_eq_true rfl) rfl rfl) ?_
    rintro _ w_8 ⟨rfl, hS9⟩
    have hS9 : ST w0 [] _ [⟨some ⟨b, 0, none⟩, 91, [.int .i64 x.Num.A, .int .i64 x.Num.B, .int .i64 x.Num.C, .int .i64 x.Num.D, .int .i64 x.Exp], 5⟩, ⟨some ⟨b1, 0, none⟩, 91, [.int .i64 y.Num.A, .int .i64 y.Num.B, .int .i64 y.Num.C, .int .i64 y.Num.D, .int .i64 y.Exp], 5⟩, ⟨some ⟨b2, 0, none⟩, 91, [.int .i64 0, .int .i64 0, .int .i64 0, .int .i64 0, .int .i64 0], 5⟩, ⟨some ⟨b3, 0, none⟩, 89, [.int .i64 r_2.A, .int .i64 r_2.B, .int .i64 r_2.C, .int .i64 r_2.D], 4⟩] [] := hS9
    refine sq 5 rfl rfl (Y_assign (v := .bool false) rfl rfl) ?_
    refine rw_nil ?_
    refine cw_ret ?_
    obtain ⟨rfl, rfl⟩ := pr2 (some_inj hF1)
    exact ret2 Try.results112 (v1 := .agg #[.int .i64 0, .int .i64 0, .int .i64 0, .int .i64 0, .int .i64 0]) (resAt_cellA (B := some ⟨b2, 0, none⟩) (i := 0) (cs := [.int .i64 0, .int .i64 0, .int .i64 0, .int .i64 0, .int .i64 0]) (vs := [.int .i64 0, .int .i64 0, .int .i64 0, .int .i64 0, .int .i64 0]) rfl k_ag_91 k_sz_91_5 (hS9.cf (i := 2) rfl) rfl rfl) (v2 := .bool false) (resAt_tmp rfl) ⟨rfl, (ST.subR (R' := []) (hS9.sel [] rfl rfl) (fun _ h => by cases h))⟩
  · skip
    have hF2 := cf' hF hb
    refine cw_skip ?_
    refine cw_seq ?_
    refine cw_region ?_
    refine sq 29 rfl rfl (Y_loadA (B := some ⟨b3, 0, none⟩) (i := 0) (cs := [.int .i64 r_2.A, .int .i64 r_2.B, .int .i64 r_2.C, .int .i64 r_2.D]) (vs := [.int .i64 r_2.A, .int .i64 r_2.B, .int .i64 r_2.C, .int .i64 r_2.D]) k_ag_89 k_sz_89_4 rfl rfl (hS8.cf (i := 3) rfl) rfl rfl) ?_
    refine sq 30 rfl rfl (Y_fieldAddr (B := some ⟨b, 0, none⟩) (i := 0) (s := 0) k_fd_91_1_4_3 k_sz_3_1 rfl rfl) ?_
    refine sq 31 rfl rfl (Y_load1 (B := some ⟨b, 0, none⟩) (i := 4) (cs := [.int .i64 x.Num.A, .int .i64 x.Num.B, .int .i64 x.Num.C, .int .i64 x.Num.D, .int .i64 x.Exp]) (v := .int .i64 x.Exp) k_sc_3 rfl rfl (hS8.cf (i := 0) rfl) rfl) ?_
    refine sq 32 rfl rfl (Y_fieldAddr (B := some ⟨b1, 0, none⟩) (i := 0) (s := 0) k_fd_91_1_4_3 k_sz_3_1 rfl rfl) ?_
    refine sq 33 rfl rfl (Y_load1 (B := some ⟨b1, 0, none⟩) (i := 4) (cs := [.int .i64 y.Num.A, .int .i64 y.Num.B, .int .i64 y.Num.C, .int .i64 y.Num.D, .int .i64 y.Exp]) (v := .int .i64 y.Exp) k_sc_3 rfl rfl (hS8.cf (i := 1) rfl) rfl) ?_
    refine sq 34 rfl rfl (Y_add (k := .i64) (a := x.Exp) (b := y.Exp) rfl rfl rfl) ?_
    obtain ⟨⟨r_6, r_7⟩, hc3, hF2⟩ := bind_inv hF2
    refine sc 35 rfl rfl (Yc_func (g := 167) (vs := [.agg #[.int .i64 r_2.A, .int .i64 r_2.B, .int .i64 r_2.C, .int .i64 r_2.D], .int .i64 (IntKind.i64.wrap (x.Exp + y.Exp))]) k_call_167 rfl (mc rfl (mc rfl mn)) (c_impl_DyadicOf r_2 (IntKind.i64.wrap (x.Exp + y.Exp)) _  (hS8.inn0 [] rfl) hc3)) ?_
    rintro _ w_9 ⟨rfl, hd2⟩
    have hS10 := hS8.out00 hd2
    have hS10 : ST w0 [] _ [⟨some ⟨b, 0, none⟩, 91, [.int .i64 x.Num.A, .int .i64 x.Num.B, .int .i64 x.Num.C, .int .i64 x.Num.D, .int .i64 x.Exp], 5⟩, ⟨some ⟨b1, 0, none⟩, 91, [.int .i64 y.Num.A, .int .i64 y.Num.B, .int .i64 y.Num.C, .int .i64 y.Num.D, .int .i64 y.Exp], 5⟩, ⟨some ⟨b2, 0, none⟩, 91, [.int .i64 0, .int .i64 0, .int .i64 0, .int .i64 0, .int .i64 0], 5⟩, ⟨some ⟨b3, 0, none⟩, 89, [.int .i64 r_2.A, .int .i64 r_2.B, .int .i64 r_2.C, .int .i64 r_2.D], 4⟩] [] := hS10
    refine sq 36 rfl rfl (Y_extract (v := .agg #[.int .i64 r_6.Num.A, .int .i64 r_6.Num.B, .int .i64 r_6.Num.C, .int .i64 r_6.Num.D, .int .i64 r_6.Exp]) rfl rfl rfl) ?_
    refine sq 37 rfl rfl (Y_extract (v := .bool r_7) rfl rfl rfl) ?_
    refine ss0 rfl rfl (Ys_store (i := 2) (s := 5) (B := some ⟨b2, 0, none⟩) (T' := 91) (v := .agg #[.int .i64 r_6.Num.A, .int .i64 r_6.Num.B, .int .i64 r_6.Num.C, .int .i64 r_6.Num.D, .int .i64 r_6.Exp]) (vs := [.int .i64 r_6.Num.A, .int .i64 r_6.Num.B, .int .i64 r_6.Num.C, .int .i64 r_6.Num.D, .int .i64 r_6.Exp]) (k := 0) (cs' := [.int .i64 r_6.Num.A, .int .i64 r_6.Num.B, .int .i64 r_6.Num.C, .int .i64 r_6.Num.D, .int .i64 r_6.Exp]) hS10 k_sz_91_5 rfl rfl rfl rfl rfl rfl rfl (Nat.le_of_ble_eq_true rfl) rfl rfl) ?_
    rintro _ w_10 ⟨rfl, hS11⟩
    have hS11 : ST w0 [] _ [⟨some ⟨b, 0, none⟩, 91, [.int .i64 x.Num.A, .int .i64 x.Num.B, .int .i64 x.Num.C, .int .i64 x.Num.D, .int .i64 x.Exp], 5⟩, ⟨some ⟨b1, 0, none⟩, 91, [.int .i64 y.Num.A, .int .i64 y.Num.B, .int .i64 y.Num.C, .int .i64 y.Num.D, .int .i64 y.Exp], 5⟩, ⟨some ⟨b2, 0, none⟩, 91, [.int .i64 r_6.Num.A, .int .i64 r_6.Num.B, .int .i64 r_6.Num.C, .int .i64 r_6.Num.D, .int .i64 r_6.Exp], 5⟩, ⟨some ⟨b3, 0, none⟩, 89, [.int .i64 r_2.A, .int .i64 r_2.B, .int .i64 r_2.C, .int .i64 r_2.D], 4⟩] [] := hS11
    refine sq 5 rfl rfl (Y_assign (v := .bool r_7) rfl rfl) ?_
    refine rw_nil ?_
    refine cw_ret ?_
    obtain ⟨rfl, rfl⟩ := pr2 (some_inj hF2)
    exact ret2 Try.results112 (v1 := .agg #[.int .i64 r_6.Num.A, .int .i64 r_6.Num.B, .int .i64 r_6.Num.C, .int .i64 r_6.Num.D, .int .i64 r_6.Exp]) (resAt_cellA (B := some ⟨b2, 0, none⟩) (i := 0) (cs := [.int .i64 r_6.Num.A, .int .i64 r_6.Num.B, .int .i64 r_6.Num.C, .int .i64 r_6.Num.D, .int .i64 r_6.Exp]) (vs := [.int .i64 r_6.Num.A, .int .i64 r_6.Num.B, .int .i64 r_6.Num.C, .int .i64 r_6.Num.D, .int .i64 r_6.Exp]) rfl k_ag_91 k_sz_91_5 (hS11.cf (i := 2) rfl) rfl rfl) (v2 := .bool r_7) (resAt_tmp rfl) ⟨rfl, (ST.subR (R' := []) (hS11.sel [] rfl rfl) (fun _ h => by cases h))⟩

theorem c_impl_MulRootTwo (x : TRing)  (w0 : World)  (hS : ST w0 [] w0 [] []) {r_ : TRing} {r_1 : Bool} (hF : F_impl_MulRootTwo x = some (r_, r_1)) :
    CV Try.prog 169 #[.agg #[.int .i64 x.A, .int .i64 x.B, .int .i64 x.C, .int .i64 x.D]] w0 (fun v w' => v = .tuple #[.agg #[.int .i64 r_.A, .int .i64 r_.B, .int .i64 r_.C, .int .i64 r_.D], .bool r_1] ∧ ST w0 [] w' [] []) := by
  unfold F_impl_MulRootTwo at hF
  refine cv_of_cw 30 Try.func169 rfl Try.ntmps169 rfl ?_
  refine cw_seq ?_
  refine cw_region ?_
  refine ss 1 rfl rfl (Ys_box (T := 89) (v := .agg #[.int .i64 x.A, .int .i64 x.B, .int .i64 x.C, .int .i64 x.D]) (cs := [.int .i64 x.A, .int .i64 x.B, .int .i64 x.C, .int .i64 x.D]) (m := 4) hS rfl rfl rfl rfl) ?_
  rintro _ w_ ⟨b, rfl, hS1⟩
  refine ss 2 rfl rfl (Ys_alloc (T := 89) (cs := [.int .i64 0, .int .i64 0, .int .i64 0, .int .i64 0]) (m := 4) hS1 k_zero_89 rfl rfl rfl) ?_
  rintro _ w_1 ⟨b1, rfl, hS2⟩
  have hS2 : ST w0 [] _ [⟨some ⟨b, 0, none⟩, 89, [.int .i64 x.A, .int .i64 x.B, .int .i64 x.C, .int .i64 x.D], 4⟩, ⟨some ⟨b1, 0, none⟩, 89, [.int .i64 0, .int .i64 0, .int .i64 0, .int .i64 0], 4⟩] [] := hS2
  refine sq 3 rfl rfl (Y_assign (v := .bool false) rfl rfl) ?_
  refine rw_nil ?_
  refine cw_seq ?_
  refine cw_region ?_
  refine sq 4 rfl rfl (Y_fieldAddr (B := some ⟨b, 0, none⟩) (i := 0) (s := 0) k_fd_89_1_1_3 k_sz_3_1 rfl rfl) ?_
  refine sq 5 rfl rfl (Y_load1 (B := some ⟨b, 0, none⟩) (i := 1) (cs := [.int .i64 x.A, .int .i64 x.B, .int .i64 x.C, .int .i64 x.D]) (v := .int .i64 x.B) k_sc_3 rfl rfl (hS2.cf (i := 0) rfl) rfl) ?_
  refine sq 6 rfl rfl (Y_fieldAddr (B := some ⟨b, 0, none⟩) (i := 0) (s := 0) k_fd_89_3_3_3 k_sz_3_1 rfl rfl) ?_
  refine sq 7 rfl rfl (Y_load1 (B := some ⟨b, 0, none⟩) (i := 3) (cs := [.int .i64 x.A, .int .i64 x.B, .int .i64 x.C, .int .i64 x.D]) (v := .int .i64 x.D) k_sc_3 rfl rfl (hS2.cf (i := 0) rfl) rfl) ?_
  refine sq 8 rfl rfl (Y_sub (k := .i64) (a := x.B) (b := x.D) rfl rfl rfl) ?_
  refine sq 9 rfl rfl (Y_fieldAddr (B := some ⟨b, 0, none⟩) (i := 0) (s := 0) k_fd_89_0_0_3 k_sz_3_1 rfl rfl) ?_
  refine sq 10 rfl rfl (Y_load1 (B := some ⟨b, 0, none⟩) (i := 0) (cs := [.int .i64 x.A, .int .i64 x.B, .int .i64 x.C, .int .i64 x.D]) (v := .int .i64 x.A) k_sc_3 rfl rfl (hS2.cf (i := 0) rfl) rfl) ?_
  refine sq 11 rfl rfl (Y_fieldAddr (B := some ⟨b, 0, none⟩) (i := 0) (s := 0) k_fd_89_2_2_3 k_sz_3_1 rfl rfl) ?_
  refine sq 12 rfl rfl (Y_load1 (B := some ⟨b, 0, none⟩) (i := 2) (cs := [.int .i64 x.A, .int .i64 x.B, .int .i64 x.C, .int .i64 x.D]) (v := .int .i64 x.C) k_sc_3 rfl rfl (hS2.cf (i := 0) rfl) rfl) ?_
  refine sq 13 rfl rfl (Y_add (k := .i64) (a := x.A) (b := x.C) rfl rfl rfl) ?_
  refine sq 14 rfl rfl (Y_fieldAddr (B := some ⟨b, 0, none⟩) (i := 0) (s := 0) k_fd_89_1_1_3 k_sz_3_1 rfl rfl) ?_
  refine sq 15 rfl rfl (Y_load1 (B := some ⟨b, 0, none⟩) (i := 1) (cs := [.int .i64 x.A, .int .i64 x.B, .int .i64 x.C, .int .i64 x.D]) (v := .int .i64 x.B) k_sc_3 rfl rfl (hS2.cf (i := 0) rfl) rfl) ?_
  refine sq 16 rfl rfl (Y_fieldAddr (B := some ⟨b, 0, none⟩) (i := 0) (s := 0) k_fd_89_3_3_3 k_sz_3_1 rfl rfl) ?_
  refine sq 17 rfl rfl (Y_load1 (B := some ⟨b, 0, none⟩) (i := 3) (cs := [.int .i64 x.A, .int .i64 x.B, .int .i64 x.C, .int .i64 x.D]) (v := .int .i64 x.D) k_sc_3 rfl rfl (hS2.cf (i := 0) rfl) rfl) ?_
  refine sq 18 rfl rfl (Y_add (k := .i64) (a := x.B) (b := x.D) rfl rfl rfl) ?_
  refine sq 19 rfl rfl (Y_fieldAddr (B := some ⟨b, 0, none⟩) (i := 0) (s := 0) k_fd_89_2_2_3 k_sz_3_1 rfl rfl) ?_
  refine sq 20 rfl rfl (Y_load1 (B := some ⟨b, 0, none⟩) (i := 2) (cs := [.int .i64 x.A, .int .i64 x.B, .int .i64 x.C, .int .i64 x.D]) (v := .int .i64 x.C) k_sc_3 rfl rfl (hS2.cf (i := 0) rfl) rfl) ?_
  refine sq 21 rfl rfl (Y_fieldAddr (B := some ⟨b, 0, none⟩) (i := 0) (s := 0) k_fd_89_0_0_3 k_sz_3_1 rfl rfl) ?_
  refine sq 22 rfl rfl (Y_load1 (B := some ⟨b, 0, none⟩) (i := 0) (cs := [.int .i64 x.A, .int .i64 x.B, .int .i64 x.C, .int .i64 x.D]) (v := .int .i64 x.A) k_sc_3 rfl rfl (hS2.cf (i := 0) rfl) rfl) ?_
  refine sq 23 rfl rfl (Y_sub (k := .i64) (a := x.C) (b := x.A) rfl rfl rfl) ?_
  refine sq 24 rfl rfl (Y_buildS (zs := [.int .i64 0, .int .i64 0, .int .i64 0, .int .i64 0]) (vs := [(0, .int .i64 (IntKind.i64.wrap (x.B - x.D))), (1, .int .i64 (IntKind.i64.wrap (x.A + x.C))), (2, .int .i64 (IntKind.i64.wrap (x.B + x.D))), (3, .int .i64 (IntKind.i64.wrap (x.C - x.A)))]) (cs := [.int .i64 (IntKind.i64.wrap (x.B - x.D)), .int .i64 (IntKind.i64.wrap (x.A + x.C)), .int .i64 (IntKind.i64.wrap (x.B + x.D)), .int .i64 (IntKind.i64.wrap (x.C - x.A))]) k_pl_89 k_zero_89 rfl (mpc rfl (mpc rfl (mpc rfl (mpc rfl mpn)))) rfl) ?_
  refine sq 25 rfl rfl (Y_loadA (B := some ⟨b, 0, none⟩) (i := 0) (cs := [.int .i64 x.A, .int .i64 x.B, .int .i64 x.C, .int .i64 x.D]) (vs := [.int .i64 x.A, .int .i64 x.B, .int .i64 x.C, .int .i64 x.D]) k_ag_89 k_sz_89_4 rfl rfl (hS2.cf (i := 0) rfl) rfl rfl) ?_
  refine ss 26 rfl rfl (Ys_bslice (s := 4) (len := 1) (vs := [(0, .agg #[.int .i64 x.A, .int .i64 x.B, .int .i64 x.C, .int .i64 x.D])]) (cs := [.int .i64 x.A, .int .i64 x.B, .int .i64 x.C, .int .i64 x.D]) (zs := [.int .i64 0, .int .i64 0, .int .i64 0, .int .i64 0]) (m := 4) hS2 k_sl_214_89 k_sz_89_4 k_zc_89 rfl (mpc rfl mpn) rfl rfl rfl rfl rfl rfl) ?_
  rintro _ w_2 ⟨b2, rfl, hS3⟩
  have hS3 : ST w0 [] _ [⟨some ⟨b, 0, none⟩, 89, [.int .i64 x.A, .int .i64 x.B, .int .i64 x.C, .int .i64 x.D], 4⟩, ⟨some ⟨b1, 0, none⟩, 89, [.int .i64 0, .int .i64 0, .int .i64 0, .int .i64 0], 4⟩, ⟨some ⟨b2, 0, none⟩, 89, ([x].flatMap enc_Ring), 1 * 4⟩] [] := hS3
  obtain ⟨⟨r_2, r_3⟩, hc, hF⟩ := bind_inv hF
  refine sc 27 rfl rfl (Yc_func (g := 202) (vs := [.agg #[.int .i64 (IntKind.i64.wrap (x.B - x.D)), .int .i64 (IntKind.i64.wrap (x.A + x.C)), .int .i64 (IntKind.i64.wrap (x.B + x.D)), .int .i64 (IntKind.i64.wrap (x.C - x.A))], .slice (some ⟨b2, 0, none⟩) 1 1]) k_call_202 rfl (mc rfl (mc rfl mn)) (c_impl_ringIf (TRing.mk (IntKind.i64.wrap (x.B - x.D)) (IntKind.i64.wrap (x.A + x.C)) (IntKind.i64.wrap (x.B + x.D)) (IntKind.i64.wrap (x.C - x.A))) [x] (some ⟨b2, 0, none⟩) 1 1 _ rfl (hS3.inn [false, false, true] rfl [] rfl) hc)) ?_
  rintro _ w_3 ⟨rfl, hd⟩
  have hS4 := hS3.out [false, false, true] rfl hd
  have hS4 : ST w0 [] _ [⟨some ⟨b, 0, none⟩, 89, [.int .i64 x.A, .int .i64 x.B, .int .i64 x.C, .int .i64 x.D], 4⟩, ⟨some ⟨b1, 0, none⟩, 89, [.int .i64 0, .int .i64 0, .int .i64 0, .int .i64 0], 4⟩] [] := hS4
  refine sq 28 rfl rfl (Y_extract (v := .agg #[.int .i64 r_2.A, .int .i64 r_2.B, .int .i64 r_2.C, .int .i64 r_2.D]) rfl rfl rfl) ?_
  refine sq 29 rfl rfl (Y_extract (v := .bool r_3) rfl rfl rfl) ?_
  refine ss0 rfl rfl (Ys_store (i := 1) (s := 4) (B := some ⟨b1, 0, none⟩) (T' := 89) (v := .agg #[.int .i64 r_2.A, .int .i64 r_2.B, .int .i64 r_2.C, .int .i64 r_2.D]) (vs := [.int .i64 r_2.A, .int .i64 r_2.B, .int .i64 r_2.C, .int .i64 r_2.D]) (k := 0) (cs' := [.int .i64 r_2.A, .int .i64 r_2.B, .int .i64 r_2.C, .int .i64 r_2.D]) hS4 k_sz_89_4 rfl rfl rfl rfl rfl rfl rfl (Nat.le_of_ble_eq_true rfl) rfl rfl) ?_
  rintro _ w_4 ⟨rfl, hS5⟩
  have hS5 : ST w0 [] _ [⟨some ⟨b, 0, none⟩, 89, [.int .i64 x.A, .int .i64 x.B, .int .i64 x.C, .int .i64 x.D], 4⟩, ⟨some ⟨b1, 0, none⟩, 89, [.int .i64 r_2.A, .int .i64 r_2.B, .int .i64 r_2.C, .int .i64 r_2.D], 4⟩] [] := hS5
  refine sq 3 rfl rfl (Y_assign (v := .bool r_3) rfl rfl) ?_
  refine rw_nil ?_
  refine cw_ret ?_
  obtain ⟨rfl, rfl⟩ := pr2 (some_inj hF)
  exact ret2 Try.results169 (v1 := .agg #[.int .i64 r_2.A, .int .i64 r_2.B, .int .i64 r_2.C, .int .i64 r_2.D]) (resAt_cellA (B := some ⟨b1, 0, none⟩) (i := 0) (cs := [.int .i64 r_2.A, .int .i64 r_2.B, .int .i64 r_2.C, .int .i64 r_2.D]) (vs := [.int .i64 r_2.A, .int .i64 r_2.B, .int .i64 r_2.C, .int .i64 r_2.D]) rfl k_ag_89 k_sz_89_4 (hS5.cf (i := 1) rfl) rfl rfl) (v2 := .bool r_3) (resAt_tmp rfl) ⟨rfl, (ST.subR (R' := []) (hS5.sel [] rfl rfl) (fun _ h => by cases h))⟩

theorem c_impl_raised (x : TDyadic) (exp : Int)  (w0 : World)  (hS : ST w0 [] w0 [] []) {r_ : TRing} {r_1 : Bool} (hF : F_impl_raised x exp = some (r_, r_1)) :
    CV Try.prog 119 #[.agg #[.int .i64 x.Num.A, .int .i64 x.Num.B, .int .i64 x.Num.C, .int .i64 x.Num.D, .int .i64 x.Exp], .int .i64 exp] w0 (fun v w' => v = .tuple #[.agg #[.int .i64 r_.A, .int .i64 r_.B, .int .i64 r_.C, .int .i64 r_.D], .bool r_1] ∧ ST w0 [] w' [] []) := by
  unfold F_impl_raised at hF
  refine cv_of_cw 28 Try.func119 rfl Try.ntmps119 rfl ?_
  refine cw_seq ?_
  refine cw_region ?_
  refine ss 2 rfl rfl (Ys_box (T := 91) (v := .agg #[.int .i64 x.Num.A, .int .i64 x.Num.B, .int .i64 x.Num.C, .int .i64 x.Num.D, .int .i64 x.Exp]) (cs := [.int .i64 x.Num.A, .int .i64 x.Num.B, .int .i64 x.Num.C, .int .i64 x.Num.D, .int .i64 x.Exp]) (m := 5) hS rfl rfl rfl rfl) ?_
  rintro _ w_ ⟨b, rfl, hS1⟩
  refine ss 4 rfl rfl (Ys_alloc (T := 89) (cs := [.int .i64 0, .int .i64 0, .int .i64 0, .int .i64 0]) (m := 4) hS1 k_zero_89 rfl rfl rfl) ?_
  rintro _ w_1 ⟨b1, rfl, hS2⟩
  have hS2 : ST w0 [] _ [⟨some ⟨b, 0, none⟩, 91, [.int .i64 x.Num.A, .int .i64 x.Num.B, .int .i64 x.Num.C, .int .i64 x.Num.D, .int .i64 x.Exp], 5⟩, ⟨some ⟨b1, 0, none⟩, 89, [.int .i64 0, .int .i64 0, .int .i64 0, .int .i64 0], 4⟩] [] := hS2
  refine sq 5 rfl rfl (Y_assign (v := .bool false) rfl rfl) ?_
  refine rw_nil ?_
  refine cw_seq ?_
  refine cw_region ?_
  refine sq 9 rfl rfl (Y_fieldAddr (B := some ⟨b, 0, none⟩) (i := 0) (s := 3) k_fd_91_0_0_89 k_sz_89_4 rfl rfl) ?_
  refine sq 10 rfl rfl (Y_loadA (B := some ⟨b, 0, none⟩) (i := 0) (cs := [.int .i64 x.Num.A, .int .i64 x.Num.B, .int .i64 x.Num.C, .int .i64 x.Num.D, .int .i64 x.Exp]) (vs := [.int .i64 x.Num.A, .int .i64 x.Num.B, .int .i64 x.Num.C, .int .i64 x.Num.D]) k_ag_89 k_sz_89_4 rfl rfl (hS2.cf (i := 0) rfl) rfl rfl) ?_
  refine ss 6 rfl rfl (Ys_alloc (T := 89) (cs := [.int .i64 0, .int .i64 0, .int .i64 0, .int .i64 0]) (m := 4) hS2 k_zero_89 rfl rfl rfl) ?_
  rintro _ w_2 ⟨b2, rfl, hS3⟩
  have hS3 : ST w0 [] _ [⟨some ⟨b, 0, none⟩, 91, [.int .i64 x.Num.A, .int .i64 x.Num.B, .int .i64 x.Num.C, .int .i64 x.Num.D, .int .i64 x.Exp], 5⟩, ⟨some ⟨b1, 0, none⟩, 89, [.int .i64 0, .int .i64 0, .int .i64 0, .int .i64 0], 4⟩, ⟨some ⟨b2, 0, none⟩, 89, [.int .i64 0, .int .i64 0, .int .i64 0, .int .i64 0], 4⟩] [] := hS3
  refine ss0 rfl rfl (Ys_store (i := 2) (s := 4) (B := some ⟨b2, 0, none⟩) (T' := 89) (v := .agg #[.int .i64 x.Num.A, .int .i64 x.Num.B, .int .i64 x.Num.C, .int .i64 x.Num.D]) (vs := [.int .i64 x.Num.A, .int .i64 x.Num.B, .int .i64 x.Num.C, .int .i64 x.Num.D]) (k := 0) (cs' := [.int .i64 x.Num.A, .int .i64 x.Num.B, .int .i64 x.Num.C, .int .i64 x.Num.D]) hS3 k_sz_89_4 rfl rfl rfl rfl rfl rfl rfl (Nat.le_of_ble_eq_true rfl) rfl rfl) ?_
  rintro _ w_3 ⟨rfl, hS4⟩
  have hS4 : ST w0 [] _ [⟨some ⟨b, 0, none⟩, 91, [.int .i64 x.Num.A, .int .i64 x.Num.B, .int .i64 x.Num.C, .int .i64 x.Num.D, .int .i64 x.Exp], 5⟩, ⟨some ⟨b1, 0, none⟩, 89, [.int .i64 0, .int .i64 0, .int .i64 0, .int .i64 0], 4⟩, ⟨some ⟨b2, 0, none⟩, 89, [.int .i64 x.Num.A, .int .i64 x.Num.B, .int .i64 x.Num.C, .int .i64 x.Num.D], 4⟩] [] := hS4
  refine sq 7 rfl rfl (Y_assign (v := .bool true) rfl rfl) ?_
  refine rw_nil ?_
  refine cw_seq ?_
  refine cw_seq ?_
  refine cw_region ?_
  refine sq 11 rfl rfl (Y_fieldAddr (B := some ⟨b, 0, none⟩) (i := 0) (s := 0) k_fd_91_1_4_3 k_sz_3_1 rfl rfl) ?_
  refine sq 12 rfl rfl (Y_load1 (B := some ⟨b, 0, none⟩) (i := 4) (cs := [.int .i64 x.Num.A, .int .i64 x.Num.B, .int .i64 x.Num.C, .int .i64 x.Num.D, .int .i64 x.Exp]) (v := .int .i64 x.Exp) k_sc_3 rfl rfl (hS4.cf (i := 0) rfl) rfl) ?_
  refine sq 8 rfl rfl (Y_assign (v := .int .i64 x.Exp) rfl rfl) ?_
  refine rw_nil ?_
  obtain ⟨z, hz, hF1⟩ := bind_inv hF
  refine cw_block ?_
  refine cw_loop (fun k f w => ∃ (A : Int) (B : Int) (C : Int) (D : Int) (ok : Bool) (k_ : Int), FF f [(1, .int .i64 exp), (4, pt (some ⟨b1, 0, none⟩) 0), (6, pt (some ⟨b2, 0, none⟩) 0), (7, .bool ok), (8, .int .i64 k_)] ∧ ST w0 [] w [⟨some ⟨b1, 0, none⟩, 89, [.int .i64 0, .int .i64 0, .int .i64 0, .int .i64 0], 4⟩, ⟨some ⟨b2, 0, none⟩, 89, [.int .i64 A, .int .i64 B, .int .i64 C, .int .i64 D], 4⟩] [] ∧ whX (F_impl_raised_l1 exp) k (A, B, C, D, ok, k_) = some z) fuel ⟨x.Num.A, x.Num.B, x.Num.C, x.Num.D, true, x.Exp, (FF.cons rfl (FF.cons rfl (FF.cons rfl (FF.cons rfl (FF.cons rfl FF.nil))))), (hS4.sel [1, 2] rfl rfl), hz⟩ ?_
  rintro k_1 f w ⟨A, B, C, D, ok, k_, hf, hS5, hL⟩
  obtain ⟨k_2, y, rfl, hb, hL1⟩ := whX_go hL
  unfold F_impl_raised_l1 at hb
  refine cw_seq ?_
  refine cw_seq ?_
  refine cw_region ?_
  refine sq 13 rfl rfl (Y_move (v := .int .i64 k_) rfl (hf.get 8 4 rfl)) ?_
  refine sq 14 rfl rfl (Y_move (v := .int .i64 exp) rfl (hf.get 1 0 rfl)) ?_
  refine sq 15 rfl rfl (Y_lt (k := .i64) (a := k_) (b := exp) rfl rfl rfl) ?_
  refine sq 16 rfl rfl (Y_move (v := .bool (decide (k_ < exp))) rfl rfl) ?_
  refine sgq 17 (B := (decide (k_ < exp))) (v := .bool ok) rfl rfl (wt_t (gd_of (t := 16) (by kernel_rfl) rfl)) (fun hg => (Y_move (v := .bool ok) rfl (hf.get 7 3 rfl))) ?_
  refine sq 18 rfl rfl (Y_and (b := (decide (k_ < exp))) (z := ok) rfl rfl rfl rfl) ?_
  refine rw_nil ?_
  refine cw_cond (b := ((decide (k_ < exp)) && ok)) rfl (fun hb1 => ?_) (fun hb1 => ?_)
  · skip
    have hF2 := ct hb hb1
    refine cw_skip ?_
    refine cw_seq ?_
    refine cw_block ?_
    refine cw_region ?_
    refine sq 22 rfl rfl (Y_loadA (B := some ⟨b2, 0, none⟩) (i := 0) (cs := [.int .i64 A, .int .i64 B, .int .i64 C, .int .i64 D]) (vs := [.int .i64 A, .int .i64 B, .int .i64 C, .int .i64 D]) k_ag_89 k_sz_89_4 rfl (hf.get 6 2 rfl) (hS5.cf (i := 1) rfl) rfl rfl) ?_
    obtain ⟨⟨r_2, r_3⟩, hc, hF2⟩ := bind_inv hF2
    refine sc 23 rfl rfl (Yc_func (g := 169) (vs := [.agg #[.int .i64 A, .int .i64 B, .int .i64 C, .int .i64 D]]) k_call_169 rfl (mc rfl mn) (c_impl_MulRootTwo (TRing.mk A B C D) _  (hS5.inn0 [] rfl) hc)) ?_
    rintro _ w_4 ⟨rfl, hd⟩
    have hS6 := hS5.out00 hd
    have hS6 : ST w0 [] _ [⟨some ⟨b1, 0, none⟩, 89, [.int .i64 0, .int .i64 0, .int .i64 0, .int .i64 0], 4⟩, ⟨some ⟨b2, 0, none⟩, 89, [.int .i64 A, .int .i64 B, .int .i64 C, .int .i64 D], 4⟩] [] := hS6
    refine sq 21 rfl rfl (Y_move (v := .tuple #[.agg #[.int .i64 r_2.A, .int .i64 r_2.B, .int .i64 r_2.C, .int .i64 r_2.D], .bool r_3]) rfl rfl) ?_
    refine sq 24 rfl rfl (Y_extract (v := .agg #[.int .i64 r_2.A, .int .i64 r_2.B, .int .i64 r_2.C, .int .i64 r_2.D]) rfl rfl rfl) ?_
    refine sq 25 rfl rfl (Y_extract (v := .bool r_3) rfl rfl rfl) ?_
    refine ss0 rfl rfl (Ys_store (i := 1) (s := 4) (B := some ⟨b2, 0, none⟩) (T' := 89) (v := .agg #[.int .i64 r_2.A, .int .i64 r_2.B, .int .i64 r_2.C, .int .i64 r_2.D]) (vs := [.int .i64 r_2.A, .int .i64 r_2.B, .int .i64 r_2.C, .int .i64 r_2.D]) (k := 0) (cs' := [.int .i64 r_2.A, .int .i64 r_2.B, .int .i64 r_2.C, .int .i64 r_2.D]) hS6 k_sz_89_4 rfl (hf.get 6 2 rfl) rfl rfl rfl rfl rfl (Nat.le_of_ble_eq_true rfl) rfl rfl) ?_
    rintro _ w_5 ⟨rfl, hS7⟩
    have hS7 : ST w0 [] _ [⟨some ⟨b1, 0, none⟩, 89, [.int .i64 0, .int .i64 0, .int .i64 0, .int .i64 0], 4⟩, ⟨some ⟨b2, 0, none⟩, 89, [.int .i64 r_2.A, .int .i64 r_2.B, .int .i64 r_2.C, .int .i64 r_2.D], 4⟩] [] := hS7
    refine sq 7 rfl rfl (Y_assign (v := .bool r_3) rfl rfl) ?_
    refine rw_nil ?_
    refine cw_region ?_
    refine sq 19 rfl rfl (Y_move (v := .int .i64 k_) rfl (hf.get 8 4 rfl)) ?_
    refine sq 20 rfl rfl (Y_add (k := .i64) (a := k_) (b := 1) rfl rfl rfl) ?_
    refine sq 8 rfl rfl (Y_assign (v := .int .i64 (IntKind.i64.wrap (k_ + 1))) rfl rfl) ?_
    refine rw_nil ?_
    obtain rfl := some_inj hF2
    exact ⟨k_2, Nat.lt_succ_self _, r_2.A, r_2.B, r_2.C, r_2.D, r_3, (IntKind.i64.wrap (k_ + 1)), (FF.cons (hf.get 1 0 rfl) (FF.cons (hf.get 4 1 rfl) (FF.cons (hf.get 6 2 rfl) (FF.cons rfl (FF.cons rfl FF.nil))))), (hS7.sel [0, 1] rfl rfl), hL1⟩
  · skip
    have hF3 := cf' hb hb1
    refine cw_exit rfl ?_
    obtain rfl := some_inj hF3
    obtain rfl := some_inj hL1
    refine cw_seq ?_
    refine cw_region ?_
    refine sq 26 rfl rfl (Y_loadA (B := some ⟨b2, 0, none⟩) (i := 0) (cs := [.int .i64 A, .int .i64 B, .int .i64 C, .int .i64 D]) (vs := [.int .i64 A, .int .i64 B, .int .i64 C, .int .i64 D]) k_ag_89 k_sz_89_4 rfl (hf.get 6 2 rfl) (hS5.cf (i := 1) rfl) rfl rfl) ?_
    refine sq 27 rfl rfl (Y_move (v := .bool ok) rfl (hf.get 7 3 rfl)) ?_
    refine ss0 rfl rfl (Ys_store (i := 0) (s := 4) (B := some ⟨b1, 0, none⟩) (T' := 89) (v := .agg #[.int .i64 A, .int .i64 B, .int .i64 C, .int .i64 D]) (vs := [.int .i64 A, .int .i64 B, .int .i64 C, .int .i64 D]) (k := 0) (cs' := [.int .i64 A, .int .i64 B, .int .i64 C, .int .i64 D]) hS5 k_sz_89_4 rfl (hf.get 4 1 rfl) rfl rfl rfl rfl rfl (Nat.le_of_ble_eq_true rfl) rfl rfl) ?_
    rintro _ w_6 ⟨rfl, hS8⟩
    have hS8 : ST w0 [] _ [⟨some ⟨b1, 0, none⟩, 89, [.int .i64 A, .int .i64 B, .int .i64 C, .int .i64 D], 4⟩, ⟨some ⟨b2, 0, none⟩, 89, [.int .i64 A, .int .i64 B, .int .i64 C, .int .i64 D], 4⟩] [] := hS8
    refine sq 5 rfl rfl (Y_assign (v := .bool ok) rfl rfl) ?_
    refine rw_nil ?_
    refine cw_ret ?_
    obtain ⟨rfl, rfl⟩ := pr2 (some_inj hF1)
    exact ret2 Try.results119 (v1 := .agg #[.int .i64 A, .int .i64 B, .int .i64 C, .int .i64 D]) (resAt_cellA (B := some ⟨b1, 0, none⟩) (i := 0) (cs := [.int .i64 A, .int .i64 B, .int .i64 C, .int .i64 D]) (vs := [.int .i64 A, .int .i64 B, .int .i64 C, .int .i64 D]) (hf.get 4 1 rfl) k_ag_89 k_sz_89_4 (hS8.cf (i := 0) rfl) rfl rfl) (v2 := .bool ok) (resAt_tmp rfl) ⟨rfl, (ST.subR (R' := []) (hS8.sel [] rfl rfl) (fun _ h => by cases h))⟩

theorem c_impl_combined (x : TDyadic) (y : TDyadic) (operation : TRing → TRing → Option (TRing × Bool)) (kf : Nat) (caps : Array Value) (Rf : List Ro) (w0 : World) (hk : callB Try.prog kf = true) (hp : ∀ (w : World), ST w [] w [] Rf → ∀ (x1 : TRing) (x2 : TRing) (y2 : TRing) (y3 : Bool), operation x1 x2 = some (y2, y3) → CV Try.prog kf ((.agg #[.int .i64 x1.A, .int .i64 x1.B, .int .i64 x1.C, .int .i64 x1.D]) :: (.agg #[.int .i64 x2.A, .int .i64 x2.B, .int .i64 x2.C, .int .i64 x2.D]) :: caps.toList).toArray w (fun v w' => v = .tuple #[.agg #[.int .i64 y2.A, .int .i64 y2.B, .int .i64 y2.C, .int .i64 y2.D], .bool y3] ∧ ST w [] w' [] [])) (hS : ST w0 [] w0 [] (Rf)) {r_ : TDyadic} {r_1 : Bool} (hF : F_impl_combined x y operation = some (r_, r_1)) :
    CV Try.prog 187 #[.agg #[.int .i64 x.Num.A, .int .i64 x.Num.B, .int .i64 x.Num.C, .int .i64 x.Num.D, .int .i64 x.Exp], .agg #[.int .i64 y.Num.A, .int .i64 y.Num.B, .int .i64 y.Num.C, .int .i64 y.Num.D, .int .i64 y.Exp], .func (.func kf) #[] caps] w0 (fun v w' => v = .tuple #[.agg #[.int .i64 r_.Num.A, .int .i64 r_.Num.B, .int .i64 r_.Num.C, .int .i64 r_.Num.D, .int .i64 r_.Exp], .bool r_1] ∧ ST w0 [] w' [] []) := by
  unfold F_impl_combined at hF
  refine cv_of_cw 64 Try.func187 rfl Try.ntmps187 rfl ?_
  refine cw_seq ?_
  refine cw_region ?_
  refine ss 3 rfl rfl (Ys_box (T := 91) (v := .agg #[.int .i64 x.Num.A, .int .i64 x.Num.B, .int .i64 x.Num.C, .int .i64 x.Num.D, .int .i64 x.Exp]) (cs := [.int .i64 x.Num.A, .int .i64 x.Num.B, .int .i64 x.Num.C, .int .i64 x.Num.D, .int .i64 x.Exp]) (m := 5) hS rfl rfl rfl rfl) ?_
  rintro _ w_ ⟨b, rfl, hS1⟩
  refine ss 4 rfl rfl (Ys_box (T := 91) (v := .agg #[.int .i64 y.Num.A, .int .i64 y.Num.B, .int .i64 y.Num.C, .int .i64 y.Num.D, .int .i64 y.Exp]) (cs := [.int .i64 y.Num.A, .int .i64 y.Num.B, .int .i64 y.Num.C, .int .i64 y.Num.D, .int .i64 y.Exp]) (m := 5) hS1 rfl rfl rfl rfl) ?_
  rintro _ w_1 ⟨b1, rfl, hS2⟩
  have hS2 : ST w0 [] _ [⟨some ⟨b, 0, none⟩, 91, [.int .i64 x.Num.A, .int .i64 x.Num.B, .int .i64 x.Num.C, .int .i64 x.Num.D, .int .i64 x.Exp], 5⟩, ⟨some ⟨b1, 0, none⟩, 91, [.int .i64 y.Num.A, .int .i64 y.Num.B, .int .i64 y.Num.C, .int .i64 y.Num.D, .int .i64 y.Exp], 5⟩] (Rf) := hS2
  refine ss 6 rfl rfl (Ys_alloc (T := 91) (cs := [.int .i64 0, .int .i64 0, .int .i64 0, .int .i64 0, .int .i64 0]) (m := 5) hS2 k_zero_91 rfl rfl rfl) ?_
  rintro _ w_2 ⟨b2, rfl, hS3⟩
  have hS3 : ST w0 [] _ [⟨some ⟨b, 0, none⟩, 91, [.int .i64 x.Num.A, .int .i64 x.Num.B, .int .i64 x.Num.C, .int .i64 x.Num.D, .int .i64 x.Exp], 5⟩, ⟨some ⟨b1, 0, none⟩, 91, [.int .i64 y.Num.A, .int .i64 y.Num.B, .int .i64 y.Num.C, .int .i64 y.Num.D, .int .i64 y.Exp], 5⟩, ⟨some ⟨b2, 0, none⟩, 91, [.int .i64 0, .int .i64 0, .int .i64 0, .int .i64 0, .int .i64 0], 5⟩] (Rf) := hS3
  refine sq 7 rfl rfl (Y_assign (v := .bool false) rfl rfl) ?_
  refine rw_nil ?_
  refine cw_seq ?_
  refine cw_seq ?_
  refine cw_region ?_
  refine sq 15 rfl rfl (Y_loadA (B := some ⟨b, 0, none⟩) (i := 0) (cs := [.int .i64 x.Num.A, .int .i64 x.Num.B, .int .i64 x.Num.C, .int .i64 x.Num.D, .int .i64 x.Exp]) (vs := [.int .i64 x.Num.A, .int .i64 x.Num.B, .int .i64 x.Num.C, .int .i64 x.Num.D, .int .i64 x.Exp]) k_ag_91 k_sz_91_5 rfl rfl (hS3.cf (i := 0) rfl) rfl rfl) ?_
  obtain ⟨r_2, hc, hF⟩ := bind_inv hF
  refine sc 16 rfl rfl (Yc_func (g := 134) (vs := [.agg #[.int .i64 x.Num.A, .int .i64 x.Num.B, .int .i64 x.Num.C, .int .i64 x.Num.D, .int .i64 x.Exp]]) k_call_134 rfl (mc rfl mn) (c_impl_IsValidDyadic x _  (hS3.inn0 [] rfl) hc)) ?_
  rintro _ w_3 ⟨rfl, hd⟩
  have hS4 := hS3.out00 hd
  have hS4 : ST w0 [] _ [⟨some ⟨b, 0, none⟩, 91, [.int .i64 x.Num.A, .int .i64 x.Num.B, .int .i64 x.Num.C, .int .i64 x.Num.D, .int .i64 x.Exp], 5⟩, ⟨some ⟨b1, 0, none⟩, 91, [.int .i64 y.Num.A, .int .i64 y.Num.B, .int .i64 y.Num.C, .int .i64 y.Num.D, .int .i64 y.Exp], 5⟩, ⟨some ⟨b2, 0, none⟩, 91, [.int .i64 0, .int .i64 0, .int .i64 0, .int .i64 0, .int .i64 0], 5⟩] (Rf) := hS4
  refine sq 17 rfl rfl (Y_not (p := r_2) rfl rfl) ?_
  refine sq 18 rfl rfl (Y_move (v := .bool (!r_2)) rfl rfl) ?_
  refine sgq 19 (B := (!(!r_2))) (v := .agg #[.int .i64 y.Num.A, .int .i64 y.Num.B, .int .i64 y.Num.C, .int .i64 y.Num.D, .int .i64 y.Exp]) rfl rfl (wt_f (gd_of (t := 18) (by kernel_rfl) rfl)) (fun hg => (Y_loadA (B := some ⟨b1, 0, none⟩) (i := 0) (cs := [.int .i64 y.Num.A, .int .i64 y.Num.B, .int .i64 y.Num.C, .int .i64 y.Num.D, .int .i64 y.Exp]) (vs := [.int .i64 y.Num.A, .int .i64 y.Num.B, .int .i64 y.Num.C, .int .i64 y.Num.D, .int .i64 y.Exp]) k_ag_91 k_sz_91_5 rfl rfl (hS4.cf (i := 1) rfl) rfl rfl)) ?_
  obtain ⟨r_3, hc1, hF⟩ := bind_inv hF
  refine sgc 20 (B := (!(!r_2))) (v := .bool r_3) (F := hS4.fn) rfl rfl (wt_f (gd_of (t := 18) (by kernel_rfl) rfl)) hS4 (fun hg1 => (Yc_func (g := 134) (vs := [.agg #[.int .i64 y.Num.A, .int .i64 y.Num.B, .int .i64 y.Num.C, .int .i64 y.Num.D, .int .i64 y.Exp]]) k_call_134 rfl (mc (gv_of (B := (!(!r_2))) (v := .agg #[.int .i64 y.Num.A, .int .i64 y.Num.B, .int .i64 y.Num.C, .int .i64 y.Num.D, .int .i64 y.Exp]) hg1) mn) (CV.mono (c_impl_IsValidDyadic y _  (hS4.inn0 [] rfl) (gb_inv hc1 hg1)) (by rintro _ _ ⟨rfl, h⟩; exact ⟨rfl, hS4.out00 h⟩)))) ?_
  rintro w_4 hS5
  have hS5 : ST _ _ w_4 _ _ := hS5
  refine sgq 21 (B := (!(!r_2))) (v := .bool (!r_3)) rfl rfl (wt_f (gd_of (t := 18) (by kernel_rfl) rfl)) (fun hg2 => (Y_not (p := r_3) rfl (gv_of (B := (!(!r_2))) (v := .bool r_3) hg2))) ?_
  refine sq 22 rfl rfl (Y_or (b := (!r_2)) (z := (!r_3)) rfl rfl rfl rfl) ?_
  refine rw_nil ?_
  refine cw_cond (b := ((!r_2) || (!r_3))) rfl (fun hb => ?_) (fun hb => ?_)
  · skip
    have hF1 := ct hF hb
    refine cw_seq ?_
    refine cw_region ?_
    refine sq 23 rfl rfl (Y_buildS (zs := [.int .i64 0, .int .i64 0, .int .i64 0, .int .i64 0, .int .i64 0]) (vs := []) (cs := [.int .i64 0, .int .i64 0, .int .i64 0, .int .i64 0, .int .i64 0]) k_pl_91 k_zero_91 rfl mpn rfl) ?_
    refine ss0 rfl rfl (Ys_store (i := 2) (s := 5) (B := some ⟨b2, 0, none⟩) (T' := 91) (v := .agg #[.int .i64 0, .int .i64 0, .int .i64 0, .int .i64 0, .int .i64 0]) (vs := [.int .i64 0, .int .i64 0, .int .i64 0, .int .i64 0, .int .i64 0]) (k := 0) (cs' := [.int .i64 0, .int .i64 0, .int .i64 0, .int .i64 0, .int .i64 0]) hS5 k_sz_91_5 rfl rfl rfl rfl rfl rfl rfl (Nat.le_of_ble_eq_true rfl) rfl rfl) ?_
    rintro _ w_5 ⟨rfl, hS6⟩
    have hS6 : ST w0 [] _ [⟨some ⟨b, 0, none⟩, 91, [.int .i64 x.Num.A, .int .i64 x.Num.B, .int .i64 x.Num.C, .int .i64 x.Num.D, .int .i64 x.Exp], 5⟩, ⟨some ⟨b1, 0, none⟩, 91, [.int .i64 y.Num.A, .int .i64 y.Num.B, .int .i64 y.Num.C, .int .i64 y.Num.D, .int .i64 y.Exp], 5⟩, ⟨some ⟨b2, 0, none⟩, 91, [.int .i64 0, .int .i64 0, .int .i64 0, .int .i64 0, .int .i64 0], 5⟩] (Rf) := hS6
    refine sq 7 rfl rfl (Y_assign (v := .bool false) rfl rfl) ?_
    refine rw_nil ?_
    refine cw_ret ?_
    obtain ⟨rfl, rfl⟩ := pr2 (some_inj hF1)
    exact ret2 Try.results187 (v1 := .agg #[.int .i64 0, .int .i64 0, .int .i64 0, .int .i64 0, .int .i64 0]) (resAt_cellA (B := some ⟨b2, 0, none⟩) (i := 0) (cs := [.int .i64 0, .int .i64 0, .int .i64 0, .int .i64 0, .int .i64 0]) (vs := [.int .i64 0, .int .i64 0, .int .i64 0, .int .i64 0, .int .i64 0]) rfl k_ag_91 k_sz_91_5 (hS6.cf (i := 2) rfl) rfl rfl) (v2 := .bool false) (resAt_tmp rfl) ⟨rfl, (ST.subR (R' := []) (hS6.sel [] rfl rfl) (fun _ h => by cases h))⟩
  · skip
    have hF2 := cf' hF hb
    refine cw_skip ?_
    refine cw_seq ?_
    refine cw_region ?_
    refine sq 24 rfl rfl (Y_fieldAddr (B := some ⟨b, 0, none⟩) (i := 0) (s := 0) k_fd_91_1_4_3 k_sz_3_1 rfl rfl) ?_
    refine sq 25 rfl rfl (Y_load1 (B := some ⟨b, 0, none⟩) (i := 4) (cs := [.int .i64 x.Num.A, .int .i64 x.Num.B, .int .i64 x.Num.C, .int .i64 x.Num.D, .int .i64 x.Exp]) (v := .int .i64 x.Exp) k_sc_3 rfl rfl (hS5.cf (i := 0) rfl) rfl) ?_
    refine sq 26 rfl rfl (Y_fieldAddr (B := some ⟨b1, 0, none⟩) (i := 0) (s := 0) k_fd_91_1_4_3 k_sz_3_1 rfl rfl) ?_
    refine sq 27 rfl rfl (Y_load1 (B := some ⟨b1, 0, none⟩) (i := 4) (cs := [.int .i64 y.Num.A, .int .i64 y.Num.B, .int .i64 y.Num.C, .int .i64 y.Num.D, .int .i64 y.Exp]) (v := .int .i64 y.Exp) k_sc_3 rfl rfl (hS5.cf (i := 1) rfl) rfl) ?_
    refine sq 28 rfl rfl (Y_max2 (k := .i64) (a := x.Exp) (b := y.Exp) rfl rfl rfl) ?_
    refine sq 8 rfl rfl (Y_assign (v := .int .i64 (if x.Exp < y.Exp then y.Exp else x.Exp)) rfl rfl) ?_
    refine rw_nil ?_
    refine cw_seq ?_
    refine cw_region ?_
    refine sq 30 rfl rfl (Y_loadA (B := some ⟨b, 0, none⟩) (i := 0) (cs := [.int .i64 x.Num.A, .int .i64 x.Num.B, .int .i64 x.Num.C, .int .i64 x.Num.D, .int .i64 x.Exp]) (vs := [.int .i64 x.Num.A, .int .i64 x.Num.B, .int .i64 x.Num.C, .int .i64 x.Num.D, .int .i64 x.Exp]) k_ag_91 k_sz_91_5 rfl rfl (hS5.cf (i := 0) rfl) rfl rfl) ?_
    refine sq 31 rfl rfl (Y_move (v := .int .i64 (if x.Exp < y.Exp then y.Exp else x.Exp)) rfl rfl) ?_
    obtain ⟨⟨r_4, r_5⟩, hc2, hF2⟩ := bind_inv hF2
    refine sc 32 rfl rfl (Yc_func (g := 119) (vs := [.agg #[.int .i64 x.Num.A, .int .i64 x.Num.B, .int .i64 x.Num.C, .int .i64 x.Num.D, .int .i64 x.Exp], .int .i64 (if x.Exp < y.Exp then y.Exp else x.Exp)]) k_call_119 rfl (mc rfl (mc rfl mn)) (c_impl_raised x (if x.Exp < y.Exp then y.Exp else x.Exp) _  (hS5.inn0 [] rfl) hc2)) ?_
    rintro _ w_6 ⟨rfl, hd1⟩
    have hS7 := hS5.out00 hd1
    have hS7 : ST w0 [] _ [⟨some ⟨b, 0, none⟩, 91, [.int .i64 x.Num.A, .int .i64 x.Num.B, .int .i64 x.Num.C, .int .i64 x.Num.D, .int .i64 x.Exp], 5⟩, ⟨some ⟨b1, 0, none⟩, 91, [.int .i64 y.Num.A, .int .i64 y.Num.B, .int .i64 y.Num.C, .int .i64 y.Num.D, .int .i64 y.Exp], 5⟩, ⟨some ⟨b2, 0, none⟩, 91, [.int .i64 0, .int .i64 0, .int .i64 0, .int .i64 0, .int .i64 0], 5⟩] (Rf) := hS7
    refine sq 29 rfl rfl (Y_move (v := .tuple #[.agg #[.int .i64 r_4.A, .int .i64 r_4.B, .int .i64 r_4.C, .int .i64 r_4.D], .bool r_5]) rfl rfl) ?_
    refine sq 33 rfl rfl (Y_extract (v := .agg #[.int .i64 r_4.A, .int .i64 r_4.B, .int .i64 r_4.C, .int .i64 r_4.D]) rfl rfl rfl) ?_
    refine sq 34 rfl rfl (Y_extract (v := .bool r_5) rfl rfl rfl) ?_
    refine ss 9 rfl rfl (Ys_alloc (T := 89) (cs := [.int .i64 0, .int .i64 0, .int .i64 0, .int .i64 0]) (m := 4) hS7 k_zero_89 rfl rfl rfl) ?_
    rintro _ w_7 ⟨b3, rfl, hS8⟩
    have hS8 : ST w0 [] _ [⟨some ⟨b, 0, none⟩, 91, [.int .i64 x.Num.A, .int .i64 x.Num.B, .int .i64 x.Num.C, .int .i64 x.Num.D, .int .i64 x.Exp], 5⟩, ⟨some ⟨b1, 0, none⟩, 91, [.int .i64 y.Num.A, .int .i64 y.Num.B, .int .i64 y.Num.C, .int .i64 y.Num.D, .int .i64 y.Exp], 5⟩, ⟨some ⟨b2, 0, none⟩, 91, [.int .i64 0, .int .i64 0, .int .i64 0, .int .i64 0, .int .i64 0], 5⟩, ⟨some ⟨b3, 0, none⟩, 89, [.int .i64 0, .int .i64 0, .int .i64 0, .int .i64 0], 4⟩] (Rf) := hS8
    refine ss0 rfl rfl (Ys_store (i := 3) (s := 4) (B := some ⟨b3, 0, none⟩) (T' := 89) (v := .agg #[.int .i64 r_4.A, .int .i64 r_4.B, .int .i64 r_4.C, .int .i64 r_4.D]) (vs := [.int .i64 r_4.A, .int .i64 r_4.B, .int .i64 r_4.C, .int .i64 r_4.D]) (k := 0) (cs' := [.int .i64 r_4.A, .int .i64 r_4.B, .int .i64 r_4.C, .int .i64 r_4.D]) hS8 k_sz_89_4 rfl rfl rfl rfl rfl rfl rfl (Nat.le_of_ble_eq_true rfl) rfl rfl) ?_
    rintro _ w_8 ⟨rfl, hS9⟩
    have hS9 : ST w0 [] _ [⟨some ⟨b, 0, none⟩, 91, [.int .i64 x.Num.A, .int .i64 x.Num.B, .int .i64 x.Num.C, .int .i64 x.Num.D, .int .i64 x.Exp], 5⟩, ⟨some ⟨b1, 0, none⟩, 91, [.int .i64 y.Num.A, .int .i64 y.Num.B, .int .i64 y.Num.C, .int .i64 y.Num.D, .int .i64 y.Exp], 5⟩, ⟨some ⟨b2, 0, none⟩, 91, [.int .i64 0, .int .i64 0, .int .i64 0, .int .i64 0, .int .i64 0], 5⟩, ⟨some ⟨b3, 0, none⟩, 89, [.int .i64 r_4.A, .int .i64 r_4.B, .int .i64 r_4.C, .int .i64 r_4.D], 4⟩] (Rf) := hS9
    refine sq 10 rfl rfl (Y_assign (v := .bool r_5) rfl rfl) ?_
    refine rw_nil ?_
    refine cw_seq ?_
    refine cw_region ?_
    refine sq 36 rfl rfl (Y_loadA (B := some ⟨b1, 0, none⟩) (i := 0) (cs := [.int .i64 y.Num.A, .int .i64 y.Num.B, .int .i64 y.Num.C, .int .i64 y.Num.D, .int .i64 y.Exp]) (vs := [.int .i64 y.Num.A, .int .i64 y.Num.B, .int .i64 y.Num.C, .int .i64 y.Num.D, .int .i64 y.Exp]) k_ag_91 k_sz_91_5 rfl rfl (hS9.cf (i := 1) rfl) rfl rfl) ?_
    refine sq 37 rfl rfl (Y_move (v := .int .i64 (if x.Exp < y.Exp then y.Exp else x.Exp)) rfl rfl) ?_
    obtain ⟨⟨r_6, r_7⟩, hc3, hF2⟩ := bind_inv hF2
    refine sc 38 rfl rfl (Yc_func (g := 119) (vs := [.agg #[.int .i64 y.Num.A, .int .i64 y.Num.B, .int .i64 y.Num.C, .int .i64 y.Num.D, .int .i64 y.Exp], .int .i64 (if x.Exp < y.Exp then y.Exp else x.Exp)]) k_call_119 rfl (mc rfl (mc rfl mn)) (c_impl_raised y (if x.Exp < y.Exp then y.Exp else x.Exp) _  (hS9.inn0 [] rfl) hc3)) ?_
    rintro _ w_9 ⟨rfl, hd2⟩
    have hS10 := hS9.out00 hd2
    have hS10 : ST w0 [] _ [⟨some ⟨b, 0, none⟩, 91, [.int .i64 x.Num.A, .int .i64 x.Num.B, .int .i64 x.Num.C, .int .i64 x.Num.D, .int .i64 x.Exp], 5⟩, ⟨some ⟨b1, 0, none⟩, 91, [.int .i64 y.Num.A, .int .i64 y.Num.B, .int .i64 y.Num.C, .int .i64 y.Num.D, .int .i64 y.Exp], 5⟩, ⟨some ⟨b2, 0, none⟩, 91, [.int .i64 0, .int .i64 0, .int .i64 0, .int .i64 0, .int .i64 0], 5⟩, ⟨some ⟨b3, 0, none⟩, 89, [.int .i64 r_4.A, .int .i64 r_4.B, .int .i64 r_4.C, .int .i64 r_4.D], 4⟩] (Rf) := hS10
    refine sq 35 rfl rfl (Y_move (v := .tuple #[.agg #[.int .i64 r_6.A, .int .i64 r_6.B, .int .i64 r_6.C, .int .i64 r_6.D], .bool r_7]) rfl rfl) ?_
    refine sq 39 rfl rfl (Y_extract (v := .agg #[.int .i64 r_6.A, .int .i64 r_6.B, .int .i64 r_6.C, .int .i64 r_6.D]) rfl rfl rfl) ?_
    refine sq 40 rfl rfl (Y_extract (v := .bool r_7) rfl rfl rfl) ?_
    refine ss 11 rfl rfl (Ys_alloc (T := 89) (cs := [.int .i64 0, .int .i64 0, .int .i64 0, .int .i64 0]) (m := 4) hS10 k_zero_89 rfl rfl rfl) ?_
    rintro _ w_10 ⟨b4, rfl, hS11⟩
    have hS11 : ST w0 [] _ [⟨some ⟨b, 0, none⟩, 91, [.int .i64 x.Num.A, .int .i64 x.Num.B, .int .i64 x.Num.C, .int .i64 x.Num.D, .int .i64 x.Exp], 5⟩, ⟨some ⟨b1, 0, none⟩, 91, [.int .i64 y.Num.A, .int .i64 y.Num.B, .int .i64 y.Num.C, .int .i64 y.Num.D, .int .i64 y.Exp], 5⟩, ⟨some ⟨b2, 0, none⟩, 91, [.int .i64 0, .int .i64 0, .int .i64 0, .int .i64 0, .int .i64 0], 5⟩, ⟨some ⟨b3, 0, none⟩, 89, [.int .i64 r_4.A, .int .i64 r_4.B, .int .i64 r_4.C, .int .i64 r_4.D], 4⟩, ⟨some ⟨b4, 0, none⟩, 89, [.int .i64 0, .int .i64 0, .int .i64 0, .int .i64 0], 4⟩] (Rf) := hS11
    refine ss0 rfl rfl (Ys_store (i := 4) (s := 4) (B := some ⟨b4, 0, none⟩) (T' := 89) (v := .agg #[.int .i64 r_6.A, .int .i64 r_6.B, .int .i64 r_6.C, .int .i64 r_6.D]) (vs := [.int .i64 r_6.A, .int .i64 r_6.B, .int .i64 r_6.C, .int .i64 r_6.D]) (k := 0) (cs' := [.int .i64 r_6.A, .int .i64 r_6.B, .int .i64 r_6.C, .int .i64 r_6.D]) hS11 k_sz_89_4 rfl rfl rfl rfl rfl rfl rfl (Nat.le_of_ble_eq_true rfl) rfl rfl) ?_
    rintro _ w_11 ⟨rfl, hS12⟩
    have hS12 : ST w0 [] _ [⟨some ⟨b, 0, none⟩, 91, [.int .i64 x.Num.A, .int .i64 x.Num.B, .int .i64 x.Num.C, .int .i64 x.Num.D, .int .i64 x.Exp], 5⟩, ⟨some ⟨b1, 0, none⟩, 91, [.int .i64 y.Num.A, .int .i64 y.Num.B, .int .i64 y.Num.C, .int .i64 y.Num.D, .int .i64 y.Exp], 5⟩, ⟨some ⟨b2, 0, none⟩, 91, [.int .i64 0, .int .i64 0, .int .i64 0, .int .i64 0, .int .i64 0], 5⟩, ⟨some ⟨b3, 0, none⟩, 89, [.int .i64 r_4.A, .int .i64 r_4.B, .int .i64 r_4.C, .int .i64 r_4.D], 4⟩, ⟨some ⟨b4, 0, none⟩, 89, [.int .i64 r_6.A, .int .i64 r_6.B, .int .i64 r_6.C, .int .i64 r_6.D], 4⟩] (Rf) := hS12
    refine sq 12 rfl rfl (Y_assign (v := .bool r_7) rfl rfl) ?_
    refine rw_nil ?_
    refine cw_seq ?_
    refine cw_region ?_
    refine sq 42 rfl rfl (Y_move (v := .func (.func kf) #[] caps) rfl rfl) ?_
    refine sq 43 rfl rfl (Y_loadA (B := some ⟨b3, 0, none⟩) (i := 0) (cs := [.int .i64 r_4.A, .int .i64 r_4.B, .int .i64 r_4.C, .int .i64 r_4.D]) (vs := [.int .i64 r_4.A, .int .i64 r_4.B, .int .i64 r_4.C, .int .i64 r_4.D]) k_ag_89 k_sz_89_4 rfl rfl (hS12.cf (i := 3) rfl) rfl rfl) ?_
    refine sq 44 rfl rfl (Y_loadA (B := some ⟨b4, 0, none⟩) (i := 0) (cs := [.int .i64 r_6.A, .int .i64 r_6.B, .int .i64 r_6.C, .int .i64 r_6.D]) (vs := [.int .i64 r_6.A, .int .i64 r_6.B, .int .i64 r_6.C, .int .i64 r_6.D]) k_ag_89 k_sz_89_4 rfl rfl (hS12.cf (i := 4) rfl) rfl rfl) ?_
    obtain ⟨⟨r_8, r_9⟩, hc4, hF2⟩ := bind_inv hF2
    refine sc 45 rfl rfl (Yc_clos (g := kf) (vs := (.agg #[.int .i64 r_4.A, .int .i64 r_4.B, .int .i64 r_4.C, .int .i64 r_4.D]) :: (.agg #[.int .i64 r_6.A, .int .i64 r_6.B, .int .i64 r_6.C, .int .i64 r_6.D]) :: caps.toList) hk rfl rfl (clo_args (mc rfl (mc rfl mn))) (hp _ (hS12.innS (fun _ h => List.mem_of_mem_drop (i := 0) h)) r_4 r_6 r_8 r_9 hc4)) ?_
    rintro _ w_12 ⟨rfl, hd3⟩
    have hS13 := hS12.out00 hd3
    have hS13 : ST w0 [] _ [⟨some ⟨b, 0, none⟩, 91, [.int .i64 x.Num.A, .int .i64 x.Num.B, .int .i64 x.Num.C, .int .i64 x.Num.D, .int .i64 x.Exp], 5⟩, ⟨some ⟨b1, 0, none⟩, 91, [.int .i64 y.Num.A, .int .i64 y.Num.B, .int .i64 y.Num.C, .int .i64 y.Num.D, .int .i64 y.Exp], 5⟩, ⟨some ⟨b2, 0, none⟩, 91, [.int .i64 0, .int .i64 0, .int .i64 0, .int .i64 0, .int .i64 0], 5⟩, ⟨some ⟨b3, 0, none⟩, 89, [.int .i64 r_4.A, .int .i64 r_4.B, .int .i64 r_4.C, .int .i64 r_4.D], 4⟩, ⟨some ⟨b4, 0, none⟩, 89, [.int .i64 r_6.A, .int .i64 r_6.B, .int .i64 r_6.C, .int .i64 r_6.D], 4⟩] (Rf) := hS13
    refine sq 41 rfl rfl (Y_move (v := .tuple #[.agg #[.int .i64 r_8.A, .int .i64 r_8.B, .int .i64 r_8.C, .int .i64 r_8.D], .bool r_9]) rfl rfl) ?_
    refine sq 46 rfl rfl (Y_extract (v := .agg #[.int .i64 r_8.A, .int .i64 r_8.B, .int .i64 r_8.C, .int .i64 r_8.D]) rfl rfl rfl) ?_
    refine sq 47 rfl rfl (Y_extract (v := .bool r_9) rfl rfl rfl) ?_
    refine ss 13 rfl rfl (Ys_alloc (T := 89) (cs := [.int .i64 0, .int .i64 0, .int .i64 0, .int .i64 0]) (m := 4) hS13 k_zero_89 rfl rfl rfl) ?_
    rintro _ w_13 ⟨b5, rfl, hS14⟩
    have hS14 : ST w0 [] _ [⟨some ⟨b, 0, none⟩, 91, [.int .i64 x.Num.A, .int .i64 x.Num.B, .int .i64 x.Num.C, .int .i64 x.Num.D, .int .i64 x.Exp], 5⟩, ⟨some ⟨b1, 0, none⟩, 91, [.int .i64 y.Num.A, .int .i64 y.Num.B, .int .i64 y.Num.C, .int .i64 y.Num.D, .int .i64 y.Exp], 5⟩, ⟨some ⟨b2, 0, none⟩, 91, [.int .i64 0, .int .i64 0, .int .i64 0, .int .i64 0, .int .i64 0], 5⟩, ⟨some ⟨b3, 0, none⟩, 89, [.int .i64 r_4.A, .int .i64 r_4.B, .int .i64 r_4.C, .int .i64 r_4.D], 4⟩, ⟨some ⟨b4, 0, none⟩, 89, [.int .i64 r_6.A, .int .i64 r_6.B, .int .i64 r_6.C, .int .i64 r_6.D], 4⟩, ⟨some ⟨b5, 0, none⟩, 89, [.int .i64 0, .int .i64 0, .int .i64 0, .int .i64 0], 4⟩] (Rf) := hS14
    refine ss0 rfl rfl (Ys_store (i := 5) (s := 4) (B := some ⟨b5, 0, none⟩) (T' := 89) (v := .agg #[.int .i64 r_8.A, .int .i64 r_8.B, .int .i64 r_8.C, .int .i64 r_8.D]) (vs := [.int .i64 r_8.A, .int .i64 r_8.B, .int .i64 r_8.C, .int .i64 r_8.D]) (k := 0) (cs' := [.int .i64 r_8.A, .int .i64 r_8.B, .int .i64 r_8.C, .int .i64 r_8.D]) hS14 k_sz_89_4 rfl rfl rfl rfl rfl rfl rfl (Nat.le_of_ble_eq_true rfl) rfl rfl) ?_
    rintro _ w_14 ⟨rfl, hS15⟩
    have hS15 : ST w0 [] _ [⟨some ⟨b, 0, none⟩, 91, [.int .i64 x.Num.A, .int .i64 x.Num.B, .int .i64 x.Num.C, .int .i64 x.Num.D, .int .i64 x.Exp], 5⟩, ⟨some ⟨b1, 0, none⟩, 91, [.int .i64 y.Num.A, .int .i64 y.Num.B, .int .i64 y.Num.C, .int .i64 y.Num.D, .int .i64 y.Exp], 5⟩, ⟨some ⟨b2, 0, none⟩, 91, [.int .i64 0, .int .i64 0, .int .i64 0, .int .i64 0, .int .i64 0], 5⟩, ⟨some ⟨b3, 0, none⟩, 89, [.int .i64 r_4.A, .int .i64 r_4.B, .int .i64 r_4.C, .int .i64 r_4.D], 4⟩, ⟨some ⟨b4, 0, none⟩, 89, [.int .i64 r_6.A, .int .i64 r_6.B, .int .i64 r_6.C, .int .i64 r_6.D], 4⟩, ⟨some ⟨b5, 0, none⟩, 89, [.int .i64 r_8.A, .int .i64 r_8.B, .int .i64 r_8.C, .int .i64 r_8.D], 4⟩] (Rf) := hS15
    refine sq 14 rfl rfl (Y_assign (v := .bool r_9) rfl rfl) ?_
    refine rw_nil ?_
    refine cw_seq ?_
    refine cw_seq ?_
    refine cw_region ?_
    refine sq 48 rfl rfl (Y_move (v := .bool r_5) rfl rfl) ?_
    refine sq 49 rfl rfl (Y_not (p := r_5) rfl rfl) ?_
    refine sq 50 rfl rfl (Y_move (v := .bool (!r_5)) rfl rfl) ?_
    refine sgq 51 (B := (!(!r_5))) (v := .bool r_7) rfl rfl (wt_f (gd_of (t := 50) (by kernel_rfl) rfl)) (fun hg3 => (Y_move (v := .bool r_7) rfl rfl)) ?_
    refine sgq 52 (B := (!(!r_5))) (v := .bool (!r_7)) rfl rfl (wt_f (gd_of (t := 50) (by kernel_rfl) rfl)) (fun hg4 => (Y_not (p := r_7) rfl (gv_of (B := (!(!r_5))) (v := .bool r_7) hg4))) ?_
    refine sq 53 rfl rfl (Y_or (b := (!r_5)) (z := (!r_7)) rfl rfl rfl rfl) ?_
    refine sq 54 rfl rfl (Y_move (v := .bool ((!r_5) || (!r_7))) rfl rfl) ?_
    refine sgq 55 (B := (!((!r_5) || (!r_7)))) (v := .bool r_9) rfl rfl (wt_f (gd_of (t := 54) (by kernel_rfl) rfl)) (fun hg5 => (Y_move (v := .bool r_9) rfl rfl)) ?_
    refine sgq 56 (B := (!((!r_5) || (!r_7)))) (v := .bool (!r_9)) rfl rfl (wt_f (gd_of (t := 54) (by kernel_rfl) rfl)) (fun hg6 => (Y_not (p := r_9) rfl (gv_of (B := (!((!r_5) || (!r_7)))) (v := .bool r_9) hg6))) ?_
    refine sq 57 rfl rfl (Y_or (b := ((!r_5) || (!r_7))) (z := (!r_9)) rfl rfl rfl rfl) ?_
    refine rw_nil ?_
    refine cw_cond (b := (((!r_5) || (!r_7)) || (!r_9))) rfl (fun hb1 => ?_) (fun hb1 => ?_)
    · skip
      have hF3 := ct hF2 hb1
      refine cw_seq ?_
      refine cw_region ?_
      refine sq 58 rfl rfl (Y_buildS (zs := [.int .i64 0, .int .i64 0, .int .i64 0, .int .i64 0, .int .i64 0]) (vs := []) (cs := [.int .i64 0, .int .i64 0, .int .i64 0, .int .i64 0, .int .i64 0]) k_pl_91 k_zero_91 rfl mpn rfl) ?_
      refine ss0 rfl rfl (Ys_store (i := 2) (s := 5) (B := some ⟨b2, 0, none⟩) (T' := 91) (v := .agg #[.int .i64 0, .int .i64 0, .int .i64 0, .int .i64 0, .int .i64 0]) (vs := [.int .i64 0, .int .i64 0, .int .i64 0, .int .i64 0, .int .i64 0]) (k := 0) (cs' := [.int .i64 0, .int .i64 0, .int .i64 0, .int .i64 0, .int .i64 0]) hS15 k_sz_91_5 rfl rfl rfl rfl rfl rfl rfl (Nat.le_of_ble_eq_true rfl) rfl rfl) ?_
      rintro _ w_15 ⟨rfl, hS16⟩
      have hS16 : ST w0 [] _ [⟨some ⟨b, 0, none⟩, 91, [.int .i64 x.Num.A, .int .i64 x.Num.B, .int .i64 x.Num.C, .int .i64 x.Num.D, .int .i64 x.Exp], 5⟩, ⟨some ⟨b1, 0, none⟩, 91, [.int .i64 y.Num.A, .int .i64 y.Num.B, .int .i64 y.Num.C, .int .i64 y.Num.D, .int .i64 y.Exp], 5⟩, ⟨some ⟨b2, 0, none⟩, 91, [.int .i64 0, .int .i64 0, .int .i64 0, .int .i64 0, .int .i64 0], 5⟩, ⟨some ⟨b3, 0, none⟩, 89, [.int .i64 r_4.A, .int .i64 r_4.B, .int .i64 r_4.C, .int .i64 r_4.D], 4⟩, ⟨some ⟨b4, 0, none⟩, 89, [.int .i64 r_6.A, .int .i64 r_6.B, .int .i64 r_6.C, .int .i64 r_6.D], 4⟩, ⟨some ⟨b5, 0, none⟩, 89, [.int .i64 r_8.A, .int .i64 r_8.B, .int .i64 r_8.C, .int .i64 r_8.D], 4⟩] (Rf) := hS16
      refine sq 7 rfl rfl (Y_assign (v := .bool false) rfl rfl) ?_
      refine rw_nil ?_
      refine cw_ret ?_
      obtain ⟨rfl, rfl⟩ := pr2 (some_inj hF3)
      exact ret2 Try.results187 (v1 := .agg #[.int .i64 0, .int .i64 0, .int .i64 0, .int .i64 0, .int .i64 0]) (resAt_cellA (B := some ⟨b2, 0, none⟩) (i := 0) (cs := [.int .i64 0, .int .i64 0, .int .i64 0, .int .i64 0, .int .i64 0]) (vs := [.int .i64 0, .int .i64 0, .int .i64 0, .int .i64 0, .int .i64 0]) rfl k_ag_91 k_sz_91_5 (hS16.cf (i := 2) rfl) rfl rfl) (v2 := .bool false) (resAt_tmp rfl) ⟨rfl, (ST.subR (R' := []) (hS16.sel [] rfl rfl) (fun _ h => by cases h))⟩
    · skip
      have hF4 := cf' hF2 hb1
      refine cw_skip ?_
      refine cw_seq ?_
      refine cw_region ?_
      refine sq 59 rfl rfl (Y_loadA (B := some ⟨b5, 0, none⟩) (i := 0) (cs := [.int .i64 r_8.A, .int .i64 r_8.B, .int .i64 r_8.C, .int .i64 r_8.D]) (vs := [.int .i64 r_8.A, .int .i64 r_8.B, .int .i64 r_8.C, .int .i64 r_8.D]) k_ag_89 k_sz_89_4 rfl rfl (hS15.cf (i := 5) rfl) rfl rfl) ?_
      refine sq 60 rfl rfl (Y_move (v := .int .i64 (if x.Exp < y.Exp then y.Exp else x.Exp)) rfl rfl) ?_
      obtain ⟨⟨r_10, r_11⟩, hc5, hF4⟩ := bind_inv hF4
      refine sc 61 rfl rfl (Yc_func (g := 167) (vs := [.agg #[.int .i64 r_8.A, .int .i64 r_8.B, .int .i64 r_8.C, .int .i64 r_8.D], .int .i64 (if x.Exp < y.Exp then y.Exp else x.Exp)]) k_call_167 rfl (mc rfl (mc rfl mn)) (c_impl_DyadicOf r_8 (if x.Exp < y.Exp then y.Exp else x.Exp) _  (hS15.inn0 [] rfl) hc5)) ?_
      rintro _ w_16 ⟨rfl, hd4⟩
      have hS17 := hS15.out00 hd4
      have hS17 : ST w0 [] _ [⟨some ⟨b, 0, none⟩, 91, [.int .i64 x.Num.A, .int .i64 x.Num.B, .int .i64 x.Num.C, .int .i64 x.Num.D, .int .i64 x.Exp], 5⟩, ⟨some ⟨b1, 0, none⟩, 91, [.int .i64 y.Num.A, .int .i64 y.Num.B, .int .i64 y.Num.C, .int .i64 y.Num.D, .int .i64 y.Exp], 5⟩, ⟨some ⟨b2, 0, none⟩, 91, [.int .i64 0, .int .i64 0, .int .i64 0, .int .i64 0, .int .i64 0], 5⟩, ⟨some ⟨b3, 0, none⟩, 89, [.int .i64 r_4.A, .int .i64 r_4.B, .int .i64 r_4.C, .int .i64 r_4.D], 4⟩, ⟨some ⟨b4, 0, none⟩, 89, [.int .i64 r_6.A, .int .i64 r_6.B, .int .i64 r_6.C, .int .i64 r_6.D], 4⟩, ⟨some ⟨b5, 0, none⟩, 89, [.int .i64 r_8.A, .int .i64 r_8.B, .int .i64 r_8.C, .int .i64 r_8.D], 4⟩] (Rf) := hS17
      refine sq 62 rfl rfl (Y_extract (v := .agg #[.int .i64 r_10.Num.A, .int .i64 r_10.Num.B, .int .i64 r_10.Num.C, .int .i64 r_10.Num.D, .int .i64 r_10.Exp]) rfl rfl rfl) ?_
      refine sq 63 rfl rfl (Y_extract (v := .bool r_11) rfl rfl rfl) ?_
      refine ss0 rfl rfl (Ys_store (i := 2) (s := 5) (B := some ⟨b2, 0, none⟩) (T' := 91) (v := .agg #[.int .i64 r_10.Num.A, .int .i64 r_10.Num.B, .int .i64 r_10.Num.C, .int .i64 r_10.Num.D, .int .i64 r_10.Exp]) (vs := [.int .i64 r_10.Num.A, .int .i64 r_10.Num.B, .int .i64 r_10.Num.C, .int .i64 r_10.Num.D, .int .i64 r_10.Exp]) (k := 0) (cs' := [.int .i64 r_10.Num.A, .int .i64 r_10.Num.B, .int .i64 r_10.Num.C, .int .i64 r_10.Num.D, .int .i64 r_10.Exp]) hS17 k_sz_91_5 rfl rfl rfl rfl rfl rfl rfl (Nat.le_of_ble_eq_true rfl) rfl rfl) ?_
      rintro _ w_17 ⟨rfl, hS18⟩
      have hS18 : ST w0 [] _ [⟨some ⟨b, 0, none⟩, 91, [.int .i64 x.Num.A, .int .i64 x.Num.B, .int .i64 x.Num.C, .int .i64 x.Num.D, .int .i64 x.Exp], 5⟩, ⟨some ⟨b1, 0, none⟩, 91, [.int .i64 y.Num.A, .int .i64 y.Num.B, .int .i64 y.Num.C, .int .i64 y.Num.D, .int .i64 y.Exp], 5⟩, ⟨some ⟨b2, 0, none⟩, 91, [.int .i64 r_10.Num.A, .int .i64 r_10.Num.B, .int .i64 r_10.Num.C, .int .i64 r_10.Num.D, .int .i64 r_10.Exp], 5⟩, ⟨some ⟨b3, 0, none⟩, 89, [.int .i64 r_4.A, .int .i64 r_4.B, .int .i64 r_4.C, .int .i64 r_4.D], 4⟩, ⟨some ⟨b4, 0, none⟩, 89, [.int .i64 r_6.A, .int .i64 r_6.B, .int .i64 r_6.C, .int .i64 r_6.D], 4⟩, ⟨some ⟨b5, 0, none⟩, 89, [.int .i64 r_8.A, .int .i64 r_8.B, .int .i64 r_8.C, .int .i64 r_8.D], 4⟩] (Rf) := hS18
      refine sq 7 rfl rfl (Y_assign (v := .bool r_11) rfl rfl) ?_
      refine rw_nil ?_
      refine cw_ret ?_
      obtain ⟨rfl, rfl⟩ := pr2 (some_inj hF4)
      exact ret2 Try.results187 (v1 := .agg #[.int .i64 r_10.Num.A, .int .i64 r_10.Num.B, .int .i64 r_10.Num.C, .int .i64 r_10.Num.D, .int .i64 r_10.Exp]) (resAt_cellA (B := some ⟨b2, 0, none⟩) (i := 0) (cs := [.int .i64 r_10.Num.A, .int .i64 r_10.Num.B, .int .i64 r_10.Num.C, .int .i64 r_10.Num.D, .int .i64 r_10.Exp]) (vs := [.int .i64 r_10.Num.A, .int .i64 r_10.Num.B, .int .i64 r_10.Num.C, .int .i64 r_10.Num.D, .int .i64 r_10.Exp]) rfl k_ag_91 k_sz_91_5 (hS18.cf (i := 2) rfl) rfl rfl) (v2 := .bool r_11) (resAt_tmp rfl) ⟨rfl, (ST.subR (R' := []) (hS18.sel [] rfl rfl) (fun _ h => by cases h))⟩

theorem c_impl_AddRing (x : TRing) (y : TRing)  (w0 : World)  (hS : ST w0 [] w0 [] []) {r_ : TRing} {r_1 : Bool} (hF : F_impl_AddRing x y = some (r_, r_1)) :
    CV Try.prog 188 #[.agg #[.int .i64 x.A, .int .i64 x.B, .int .i64 x.C, .int .i64 x.D], .agg #[.int .i64 y.A, .int .i64 y.B, .int .i64 y.C, .int .i64 y.D]] w0 (fun v w' => v = .tuple #[.agg #[.int .i64 r_.A, .int .i64 r_.B, .int .i64 r_.C, .int .i64 r_.D], .bool r_1] ∧ ST w0 [] w' [] []) := by
  unfold F_impl_AddRing at hF
  refine cv_of_cw 33 Try.func188 rfl Try.ntmps188 rfl ?_
  refine cw_seq ?_
  refine cw_region ?_
  refine ss 2 rfl rfl (Ys_box (T := 89) (v := .agg #[.int .i64 x.A, .int .i64 x.B, .int .i64 x.C, .int .i64 x.D]) (cs := [.int .i64 x.A, .int .i64 x.B, .int .i64 x.C, .int .i64 x.D]) (m := 4) hS rfl rfl rfl rfl) ?_
  rintro _ w_ ⟨b, rfl, hS1⟩
  refine ss 3 rfl rfl (Ys_box (T := 89) (v := .agg #[.int .i64 y.A, .int .i64 y.B, .int .i64 y.C, .int .i64 y.D]) (cs := [.int .i64 y.A, .int .i64 y.B, .int .i64 y.C, .int .i64 y.D]) (m := 4) hS1 rfl rfl rfl rfl) ?_
  rintro _ w_1 ⟨b1, rfl, hS2⟩
  have hS2 : ST w0 [] _ [⟨some ⟨b, 0, none⟩, 89, [.int .i64 x.A, .int .i64 x.B, .int .i64 x.C, .int .i64 x.D], 4⟩, ⟨some ⟨b1, 0, none⟩, 89, [.int .i64 y.A, .int .i64 y.B, .int .i64 y.C, .int .i64 y.D], 4⟩] [] := hS2
  refine ss 4 rfl rfl (Ys_alloc (T := 89) (cs := [.int .i64 0, .int .i64 0, .int .i64 0, .int .i64 0]) (m := 4) hS2 k_zero_89 rfl rfl rfl) ?_
  rintro _ w_2 ⟨b2, rfl, hS3⟩
  have hS3 : ST w0 [] _ [⟨some ⟨b, 0, none⟩, 89, [.int .i64 x.A, .int .i64 x.B, .int .i64 x.C, .int .i64 x.D], 4⟩, ⟨some ⟨b1, 0, none⟩, 89, [.int .i64 y.A, .int .i64 y.B, .int .i64 y.C, .int .i64 y.D], 4⟩, ⟨some ⟨b2, 0, none⟩, 89, [.int .i64 0, .int .i64 0, .int .i64 0, .int .i64 0], 4⟩] [] := hS3
  refine sq 5 rfl rfl (Y_assign (v := .bool false) rfl rfl) ?_
  refine rw_nil ?_
  refine cw_seq ?_
  refine cw_region ?_
  refine sq 6 rfl rfl (Y_fieldAddr (B := some ⟨b, 0, none⟩) (i := 0) (s := 0) k_fd_89_0_0_3 k_sz_3_1 rfl rfl) ?_
  refine sq 7 rfl rfl (Y_load1 (B := some ⟨b, 0, none⟩) (i := 0) (cs := [.int .i64 x.A, .int .i64 x.B, .int .i64 x.C, .int .i64 x.D]) (v := .int .i64 x.A) k_sc_3 rfl rfl (hS3.cf (i := 0) rfl) rfl) ?_
  refine sq 8 rfl rfl (Y_fieldAddr (B := some ⟨b1, 0, none⟩) (i := 0) (s := 0) k_fd_89_0_0_3 k_sz_3_1 rfl rfl) ?_
  refine sq 9 rfl rfl (Y_load1 (B := some ⟨b1, 0, none⟩) (i := 0) (cs := [.int .i64 y.A, .int .i64 y.B, .int .i64 y.C, .int .i64 y.D]) (v := .int .i64 y.A) k_sc_3 rfl rfl (hS3.cf (i := 1) rfl) rfl) ?_
  refine sq 10 rfl rfl (Y_add (k := .i64) (a := x.A) (b := y.A) rfl rfl rfl) ?_
  refine sq 11 rfl rfl (Y_fieldAddr (B := some ⟨b, 0, none⟩) (i := 0) (s := 0) k_fd_89_1_1_3 k_sz_3_1 rfl rfl) ?_
  refine sq 12 rfl rfl (Y_load1 (B := some ⟨b, 0, none⟩) (i := 1) (cs := [.int .i64 x.A, .int .i64 x.B, .int .i64 x.C, .int .i64 x.D]) (v := .int .i64 x.B) k_sc_3 rfl rfl (hS3.cf (i := 0) rfl) rfl) ?_
  refine sq 13 rfl rfl (Y_fieldAddr (B := some ⟨b1, 0, none⟩) (i := 0) (s := 0) k_fd_89_1_1_3 k_sz_3_1 rfl rfl) ?_
  refine sq 14 rfl rfl (Y_load1 (B := some ⟨b1, 0, none⟩) (i := 1) (cs := [.int .i64 y.A, .int .i64 y.B, .int .i64 y.C, .int .i64 y.D]) (v := .int .i64 y.B) k_sc_3 rfl rfl (hS3.cf (i := 1) rfl) rfl) ?_
  refine sq 15 rfl rfl (Y_add (k := .i64) (a := x.B) (b := y.B) rfl rfl rfl) ?_
  refine sq 16 rfl rfl (Y_fieldAddr (B := some ⟨b, 0, none⟩) (i := 0) (s := 0) k_fd_89_2_2_3 k_sz_3_1 rfl rfl) ?_
  refine sq 17 rfl rfl (Y_load1 (B := some ⟨b, 0, none⟩) (i := 2) (cs := [.int .i64 x.A, .int .i64 x.B, .int .i64 x.C, .int .i64 x.D]) (v := .int .i64 x.C) k_sc_3 rfl rfl (hS3.cf (i := 0) rfl) rfl) ?_
  refine sq 18 rfl rfl (Y_fieldAddr (B := some ⟨b1, 0, none⟩) (i := 0) (s := 0) k_fd_89_2_2_3 k_sz_3_1 rfl rfl) ?_
  refine sq 19 rfl rfl (Y_load1 (B := some ⟨b1, 0, none⟩) (i := 2) (cs := [.int .i64 y.A, .int .i64 y.B, .int .i64 y.C, .int .i64 y.D]) (v := .int .i64 y.C) k_sc_3 rfl rfl (hS3.cf (i := 1) rfl) rfl) ?_
  refine sq 20 rfl rfl (Y_add (k := .i64) (a := x.C) (b := y.C) rfl rfl rfl) ?_
  refine sq 21 rfl rfl (Y_fieldAddr (B := some ⟨b, 0, none⟩) (i := 0) (s := 0) k_fd_89_3_3_3 k_sz_3_1 rfl rfl) ?_
  refine sq 22 rfl rfl (Y_load1 (B := some ⟨b, 0, none⟩) (i := 3) (cs := [.int .i64 x.A, .int .i64 x.B, .int .i64 x.C, .int .i64 x.D]) (v := .int .i64 x.D) k_sc_3 rfl rfl (hS3.cf (i := 0) rfl) rfl) ?_
  refine sq 23 rfl rfl (Y_fieldAddr (B := some ⟨b1, 0, none⟩) (i := 0) (s := 0) k_fd_89_3_3_3 k_sz_3_1 rfl rfl) ?_
  refine sq 24 rfl rfl (Y_load1 (B := some ⟨b1, 0, none⟩) (i := 3) (cs := [.int .i64 y.A, .int .i64 y.B, .int .i64 y.C, .int .i64 y.D]) (v := .int .i64 y.D) k_sc_3 rfl rfl (hS3.cf (i := 1) rfl) rfl) ?_
  refine sq 25 rfl rfl (Y_add (k := .i64) (a := x.D) (b := y.D) rfl rfl rfl) ?_
  refine sq 26 rfl rfl (Y_buildS (zs := [.int .i64 0, .int .i64 0, .int .i64 0, .int .i64 0]) (vs := [(0, .int .i64 (IntKind.i64.wrap (x.A + y.A))), (1, .int .i64 (IntKind.i64.wrap (x.B + y.B))), (2, .int .i64 (IntKind.i64.wrap (x.C + y.C))), (3, .int .i64 (IntKind.i64.wrap (x.D + y.D)))]) (cs := [.int .i64 (IntKind.i64.wrap (x.A + y.A)), .int .i64 (IntKind.i64.wrap (x.B + y.B)), .int .i64 (IntKind.i64.wrap (x.C + y.C)), .int .i64 (IntKind.i64.wrap (x.D + y.D))]) k_pl_89 k_zero_89 rfl (mpc rfl (mpc rfl (mpc rfl (mpc rfl mpn)))) rfl) ?_
  refine sq 27 rfl rfl (Y_loadA (B := some ⟨b, 0, none⟩) (i := 0) (cs := [.int .i64 x.A, .int .i64 x.B, .int .i64 x.C, .int .i64 x.D]) (vs := [.int .i64 x.A, .int .i64 x.B, .int .i64 x.C, .int .i64 x.D]) k_ag_89 k_sz_89_4 rfl rfl (hS3.cf (i := 0) rfl) rfl rfl) ?_
  refine sq 28 rfl rfl (Y_loadA (B := some ⟨b1, 0, none⟩) (i := 0) (cs := [.int .i64 y.A, .int .i64 y.B, .int .i64 y.C, .int .i64 y.D]) (vs := [.int .i64 y.A, .int .i64 y.B, .int .i64 y.C, .int .i64 y.D]) k_ag_89 k_sz_89_4 rfl rfl (hS3.cf (i := 1) rfl) rfl rfl) ?_
  refine ss 29 rfl rfl (Ys_bslice (s := 4) (len := 2) (vs := [(0, .agg #[.int .i64 x.A, .int .i64 x.B, .int .i64 x.C, .int .i64 x.D]), (1, .agg #[.int .i64 y.A, .int .i64 y.B, .int .i64 y.C, .int .i64 y.D])]) (cs := [.int .i64 x.A, .int .i64 x.B, .int .i64 x.C, .int .i64 x.D, .int .i64 y.A, .int .i64 y.B, .int .i64 y.C, .int .i64 y.D]) (zs := [.int .i64 0, .int .i64 0, .int .i64 0, .int .i64 0, .int .i64 0, .int .i64 0, .int .i64 0, .int .i64 0]) (m := 8) hS3 k_sl_214_89 k_sz_89_4 k_zc_89 rfl (mpc rfl (mpc rfl mpn)) rfl rfl rfl rfl rfl rfl) ?_
  rintro _ w_3 ⟨b3, rfl, hS4⟩
  have hS4 : ST w0 [] _ [⟨some ⟨b, 0, none⟩, 89, [.int .i64 x.A, .int .i64 x.B, .int .i64 x.C, .int .i64 x.D], 4⟩, ⟨some ⟨b1, 0, none⟩, 89, [.int .i64 y.A, .int .i64 y.B, .int .i64 y.C, .int .i64 y.D], 4⟩, ⟨some ⟨b2, 0, none⟩, 89, [.int .i64 0, .int .i64 0, .int .i64 0, .int .i64 0], 4⟩, ⟨some ⟨b3, 0, none⟩, 89, ([x, y].flatMap enc_Ring), 2 * 4⟩] [] := hS4
  obtain ⟨⟨r_2, r_3⟩, hc, hF⟩ := bind_inv hF
  refine sc 30 rfl rfl (Yc_func (g := 202) (vs := [.agg #[.int .i64 (IntKind.i64.wrap (x.A + y.A)), .int .i64 (IntKind.i64.wrap (x.B + y.B)), .int .i64 (IntKind.i64.wrap (x.C + y.C)), .int .i64 (IntKind.i64.wrap (x.D + y.D))], .slice (some ⟨b3, 0, none⟩) 2 2]) k_call_202 rfl (mc rfl (mc rfl mn)) (c_impl_ringIf (TRing.mk (IntKind.i64.wrap (x.A + y.A)) (IntKind.i64.wrap (x.B + y.B)) (IntKind.i64.wrap (x.C + y.C)) (IntKind.i64.wrap (x.D + y.D))) [x, y] (some ⟨b3, 0, none⟩) 2 2 _ rfl (hS4.inn [false, false, false, true] rfl [] rfl) hc)) ?_
  rintro _ w_4 ⟨rfl, hd⟩
  have hS5 := hS4.out [false, false, false, true] rfl hd
  have hS5 : ST w0 [] _ [⟨some ⟨b, 0, none⟩, 89, [.int .i64 x.A, .int .i64 x.B, .int .i64 x.C, .int .i64 x.D], 4⟩, ⟨some ⟨b1, 0, none⟩, 89, [.int .i64 y.A, .int .i64 y.B, .int .i64 y.C, .int .i64 y.D], 4⟩, ⟨some ⟨b2, 0, none⟩, 89, [.int .i64 0, .int .i64 0, .int .i64 0, .int .i64 0], 4⟩] [] := hS5
  refine sq 31 rfl rfl (Y_extract (v := .agg #[.int .i64 r_2.A, .int .i64 r_2.B, .int .i64 r_2.C, .int .i64 r_2.D]) rfl rfl rfl) ?_
  refine sq 32 rfl rfl (Y_extract (v := .bool r_3) rfl rfl rfl) ?_
  refine ss0 rfl rfl (Ys_store (i := 2) (s := 4) (B := some ⟨b2, 0, none⟩) (T' := 89) (v := .agg #[.int .i64 r_2.A, .int .i64 r_2.B, .int .i64 r_2.C, .int .i64 r_2.D]) (vs := [.int .i64 r_2.A, .int .i64 r_2.B, .int .i64 r_2.C, .int .i64 r_2.D]) (k := 0) (cs' := [.int .i64 r_2.A, .int .i64 r_2.B, .int .i64 r_2.C, .int .i64 r_2.D]) hS5 k_sz_89_4 rfl rfl rfl rfl rfl rfl rfl (Nat.le_of_ble_eq_true rfl) rfl rfl) ?_
  rintro _ w_5 ⟨rfl, hS6⟩
  have hS6 : ST w0 [] _ [⟨some ⟨b, 0, none⟩, 89, [.int .i64 x.A, .int .i64 x.B, .int .i64 x.C, .int .i64 x.D], 4⟩, ⟨some ⟨b1, 0, none⟩, 89, [.int .i64 y.A, .int .i64 y.B, .int .i64 y.C, .int .i64 y.D], 4⟩, ⟨some ⟨b2, 0, none⟩, 89, [.int .i64 r_2.A, .int .i64 r_2.B, .int .i64 r_2.C, .int .i64 r_2.D], 4⟩] [] := hS6
  refine sq 5 rfl rfl (Y_assign (v := .bool r_3) rfl rfl) ?_
  refine rw_nil ?_
  refine cw_ret ?_
  obtain ⟨rfl, rfl⟩ := pr2 (some_inj hF)
  exact ret2 Try.results188 (v1 := .agg #[.int .i64 r_2.A, .int .i64 r_2.B, .int .i64 r_2.C, .int .i64 r_2.D]) (resAt_cellA (B := some ⟨b2, 0, none⟩) (i := 0) (cs := [.int .i64 r_2.A, .int .i64 r_2.B, .int .i64 r_2.C, .int .i64 r_2.D]) (vs := [.int .i64 r_2.A, .int .i64 r_2.B, .int .i64 r_2.C, .int .i64 r_2.D]) rfl k_ag_89 k_sz_89_4 (hS6.cf (i := 2) rfl) rfl rfl) (v2 := .bool r_3) (resAt_tmp rfl) ⟨rfl, (ST.subR (R' := []) (hS6.sel [] rfl rfl) (fun _ h => by cases h))⟩

theorem c_impl_AddDyadic (x : TDyadic) (y : TDyadic)  (w0 : World)  (hS : ST w0 [] w0 [] []) {r_ : TDyadic} {r_1 : Bool} (hF : F_impl_AddDyadic x y = some (r_, r_1)) :
    CV Try.prog 135 #[.agg #[.int .i64 x.Num.A, .int .i64 x.Num.B, .int .i64 x.Num.C, .int .i64 x.Num.D, .int .i64 x.Exp], .agg #[.int .i64 y.Num.A, .int .i64 y.Num.B, .int .i64 y.Num.C, .int .i64 y.Num.D, .int .i64 y.Exp]] w0 (fun v w' => v = .tuple #[.agg #[.int .i64 r_.Num.A, .int .i64 r_.Num.B, .int .i64 r_.Num.C, .int .i64 r_.Num.D, .int .i64 r_.Exp], .bool r_1] ∧ ST w0 [] w' [] []) := by
  unfold F_impl_AddDyadic at hF
  refine cv_of_cw 11 Try.func135 rfl Try.ntmps135 rfl ?_
  refine cw_seq ?_
  refine cw_region ?_
  refine ss 2 rfl rfl (Ys_box (T := 91) (v := .agg #[.int .i64 x.Num.A, .int .i64 x.Num.B, .int .i64 x.Num.C, .int .i64 x.Num.D, .int .i64 x.Exp]) (cs := [.int .i64 x.Num.A, .int .i64 x.Num.B, .int .i64 x.Num.C, .int .i64 x.Num.D, .int .i64 x.Exp]) (m := 5) hS rfl rfl rfl rfl) ?_
  rintro _ w_ ⟨b, rfl, hS1⟩
  refine ss 3 rfl rfl (Ys_box (T := 91) (v := .agg #[.int .i64 y.Num.A, .int .i64 y.Num.B, .int .i64 y.Num.C, .int .i64 y.Num.D, .int .i64 y.Exp]) (cs := [.int .i64 y.Num.A, .int .i64 y.Num.B, .int .i64 y.Num.C, .int .i64 y.Num.D, .int .i64 y.Exp]) (m := 5) hS1 rfl rfl rfl rfl) ?_
  rintro _ w_1 ⟨b1, rfl, hS2⟩
  have hS2 : ST w0 [] _ [⟨some ⟨b, 0, none⟩, 91, [.int .i64 x.Num.A, .int .i64 x.Num.B, .int .i64 x.Num.C, .int .i64 x.Num.D, .int .i64 x.Exp], 5⟩, ⟨some ⟨b1, 0, none⟩, 91, [.int .i64 y.Num.A, .int .i64 y.Num.B, .int .i64 y.Num.C, .int .i64 y.Num.D, .int .i64 y.Exp], 5⟩] [] := hS2
  refine ss 4 rfl rfl (Ys_alloc (T := 91) (cs := [.int .i64 0, .int .i64 0, .int .i64 0, .int .i64 0, .int .i64 0]) (m := 5) hS2 k_zero_91 rfl rfl rfl) ?_
  rintro _ w_2 ⟨b2, rfl, hS3⟩
  have hS3 : ST w0 [] _ [⟨some ⟨b, 0, none⟩, 91, [.int .i64 x.Num.A, .int .i64 x.Num.B, .int .i64 x.Num.C, .int .i64 x.Num.D, .int .i64 x.Exp], 5⟩, ⟨some ⟨b1, 0, none⟩, 91, [.int .i64 y.Num.A, .int .i64 y.Num.B, .int .i64 y.Num.C, .int .i64 y.Num.D, .int .i64 y.Exp], 5⟩, ⟨some ⟨b2, 0, none⟩, 91, [.int .i64 0, .int .i64 0, .int .i64 0, .int .i64 0, .int .i64 0], 5⟩] [] := hS3
  refine sq 5 rfl rfl (Y_assign (v := .bool false) rfl rfl) ?_
  refine rw_nil ?_
  refine cw_seq ?_
  refine cw_region ?_
  refine sq 6 rfl rfl (Y_loadA (B := some ⟨b, 0, none⟩) (i := 0) (cs := [.int .i64 x.Num.A, .int .i64 x.Num.B, .int .i64 x.Num.C, .int .i64 x.Num.D, .int .i64 x.Exp]) (vs := [.int .i64 x.Num.A, .int .i64 x.Num.B, .int .i64 x.Num.C, .int .i64 x.Num.D, .int .i64 x.Exp]) k_ag_91 k_sz_91_5 rfl rfl (hS3.cf (i := 0) rfl) rfl rfl) ?_
  refine sq 7 rfl rfl (Y_loadA (B := some ⟨b1, 0, none⟩) (i := 0) (cs := [.int .i64 y.Num.A, .int .i64 y.Num.B, .int .i64 y.Num.C, .int .i64 y.Num.D, .int .i64 y.Exp]) (vs := [.int .i64 y.Num.A, .int .i64 y.Num.B, .int .i64 y.Num.C, .int .i64 y.Num.D, .int .i64 y.Exp]) k_ag_91 k_sz_91_5 rfl rfl (hS3.cf (i := 1) rfl) rfl rfl) ?_
  obtain ⟨⟨r_2, r_3⟩, hc, hF⟩ := bind_inv hF
  refine sc 8 rfl rfl (Yc_func (g := 187) (vs := [.agg #[.int .i64 x.Num.A, .int .i64 x.Num.B, .int .i64 x.Num.C, .int .i64 x.Num.D, .int .i64 x.Exp], .agg #[.int .i64 y.Num.A, .int .i64 y.Num.B, .int .i64 y.Num.C, .int .i64 y.Num.D, .int .i64 y.Exp], .func (.func 188) #[] #[]]) k_call_187 rfl (mc rfl (mc rfl (mc rfl mn))) (c_impl_combined x y F_impl_AddRing 188 (#[]) [] _ k_call_188 (fun w hw x_0 x_1 y_0 y_1 h_ => c_impl_AddRing x_0 x_1  w  hw h_) (hS3.inn0 [] rfl) hc)) ?_
  rintro _ w_3 ⟨rfl, hd⟩
  have hS4 := hS3.out00 hd
  have hS4 : ST w0 [] _ [⟨some ⟨b, 0, none⟩, 91, [.int .i64 x.Num.A, .int .i64 x.Num.B, .int .i64 x.Num.C, .int .i64 x.Num.D, .int .i64 x.Exp], 5⟩, ⟨some ⟨b1, 0, none⟩, 91, [.int .i64 y.Num.A, .int .i64 y.Num.B, .int .i64 y.Num.C, .int .i64 y.Num.D, .int .i64 y.Exp], 5⟩, ⟨some ⟨b2, 0, none⟩, 91, [.int .i64 0, .int .i64 0, .int .i64 0, .int .i64 0, .int .i64 0], 5⟩] [] := hS4
  refine sq 9 rfl rfl (Y_extract (v := .agg #[.int .i64 r_2.Num.A, .int .i64 r_2.Num.B, .int .i64 r_2.Num.C, .int .i64 r_2.Num.D, .int .i64 r_2.Exp]) rfl rfl rfl) ?_
  refine sq 10 rfl rfl (Y_extract (v := .bool r_3) rfl rfl rfl) ?_
  refine ss0 rfl rfl (Ys_store (i := 2) (s := 5) (B := some ⟨b2, 0, none⟩) (T' := 91) (v := .agg #[.int .i64 r_2.Num.A, .int .i64 r_2.Num.B, .int .i64 r_2.Num.C, .int .i64 r_2.Num.D, .int .i64 r_2.Exp]) (vs := [.int .i64 r_2.Num.A, .int .i64 r_2.Num.B, .int .i64 r_2.Num.C, .int .i64 r_2.Num.D, .int .i64 r_2.Exp]) (k := 0) (cs' := [.int .i64 r_2.Num.A, .int .i64 r_2.Num.B, .int .i64 r_2.Num.C, .int .i64 r_2.Num.D, .int .i64 r_2.Exp]) hS4 k_sz_91_5 rfl rfl rfl rfl rfl rfl rfl (Nat.le_of_ble_eq_true rfl) rfl rfl) ?_
  rintro _ w_4 ⟨rfl, hS5⟩
  have hS5 : ST w0 [] _ [⟨some ⟨b, 0, none⟩, 91, [.int .i64 x.Num.A, .int .i64 x.Num.B, .int .i64 x.Num.C, .int .i64 x.Num.D, .int .i64 x.Exp], 5⟩, ⟨some ⟨b1, 0, none⟩, 91, [.int .i64 y.Num.A, .int .i64 y.Num.B, .int .i64 y.Num.C, .int .i64 y.Num.D, .int .i64 y.Exp], 5⟩, ⟨some ⟨b2, 0, none⟩, 91, [.int .i64 r_2.Num.A, .int .i64 r_2.Num.B, .int .i64 r_2.Num.C, .int .i64 r_2.Num.D, .int .i64 r_2.Exp], 5⟩] [] := hS5
  refine sq 5 rfl rfl (Y_assign (v := .bool r_3) rfl rfl) ?_
  refine rw_nil ?_
  refine cw_ret ?_
  obtain ⟨rfl, rfl⟩ := pr2 (some_inj hF)
  exact ret2 Try.results135 (v1 := .agg #[.int .i64 r_2.Num.A, .int .i64 r_2.Num.B, .int .i64 r_2.Num.C, .int .i64 r_2.Num.D, .int .i64 r_2.Exp]) (resAt_cellA (B := some ⟨b2, 0, none⟩) (i := 0) (cs := [.int .i64 r_2.Num.A, .int .i64 r_2.Num.B, .int .i64 r_2.Num.C, .int .i64 r_2.Num.D, .int .i64 r_2.Exp]) (vs := [.int .i64 r_2.Num.A, .int .i64 r_2.Num.B, .int .i64 r_2.Num.C, .int .i64 r_2.Num.D, .int .i64 r_2.Exp]) rfl k_ag_91 k_sz_91_5 (hS5.cf (i := 2) rfl) rfl rfl) (v2 := .bool r_3) (resAt_tmp rfl) ⟨rfl, (ST.subR (R' := []) (hS5.sel [] rfl rfl) (fun _ h => by cases h))⟩

theorem c_impl_MulMatrix_1 (i : Int) (j : Int) (p : TMatrix) (p1 : TMatrix) (B : Option Addr) (B1 : Option Addr) (c n : Nat) (B2 : Option Addr) (B3 : Option Addr) (c1 n1 : Nat) (w0 : World) (hn : p.Cells.length = n) (hn1 : p1.Cells.length = n1) (hS : ST w0 [] w0 [] [⟨B, [.int .i64 p.Rows, .int .i64 p.Cols, .slice B1 p.Cells.length c]⟩, ⟨B1, (p.Cells.flatMap enc_Dyadic)⟩, ⟨B2, [.int .i64 p1.Rows, .int .i64 p1.Cols, .slice B3 p1.Cells.length c1]⟩, ⟨B3, (p1.Cells.flatMap enc_Dyadic)⟩]) {r_ : TDyadic} {r_1 : Bool} (hF : F_impl_MulMatrix_1 i j p p1 = some (r_, r_1)) :
    CV Try.prog 159 #[.int .i64 i, .int .i64 j, pt B 0, pt B2 0] w0 (fun v w' => v = .tuple #[.agg #[.int .i64 r_.Num.A, .int .i64 r_.Num.B, .int .i64 r_.Num.C, .int .i64 r_.Num.D, .int .i64 r_.Exp], .bool r_1] ∧ ST w0 [] w' [] []) := by
  subst hn
  subst hn1
  unfold F_impl_MulMatrix_1 at hF
  refine cv_of_cw 48 Try.func159 rfl Try.ntmps159 rfl ?_
  refine cw_seq ?_
  refine cw_region ?_
  refine ss 6 rfl rfl (Ys_alloc (T := 91) (cs := [.int .i64 0, .int .i64 0, .int .i64 0, .int .i64 0, .int .i64 0]) (m := 5) hS k_zero_91 rfl rfl rfl) ?_
  rintro _ w_ ⟨b, rfl, hS1⟩
  refine sq 7 rfl rfl (Y_assign (v := .bool false) rfl rfl) ?_
  refine rw_nil ?_
  refine cw_seq ?_
  refine cw_region ?_
  refine sq 14 rfl rfl (Y_buildS (zs := [.int .i64 0, .int .i64 0, .int .i64 0, .int .i64 0, .int .i64 0]) (vs := []) (cs := [.int .i64 0, .int .i64 0, .int .i64 0, .int .i64 0, .int .i64 0]) k_pl_91 k_zero_91 rfl mpn rfl) ?_
  refine ss 8 rfl rfl (Ys_alloc (T := 91) (cs := [.int .i64 0, .int .i64 0, .int .i64 0, .int .i64 0, .int .i64 0]) (m := 5) hS1 k_zero_91 rfl rfl rfl) ?_
  rintro _ w_1 ⟨b1, rfl, hS2⟩
  have hS2 : ST w0 [] _ [⟨some ⟨b, 0, none⟩, 91, [.int .i64 0, .int .i64 0, .int .i64 0, .int .i64 0, .int .i64 0], 5⟩, ⟨some ⟨b1, 0, none⟩, 91, [.int .i64 0, .int .i64 0, .int .i64 0, .int .i64 0, .int .i64 0], 5⟩] [⟨B, [.int .i64 p.Rows, .int .i64 p.Cols, .slice B1 p.Cells.length c]⟩, ⟨B1, (p.Cells.flatMap enc_Dyadic)⟩, ⟨B2, [.int .i64 p1.Rows, .int .i64 p1.Cols, .slice B3 p1.Cells.length c1]⟩, ⟨B3, (p1.Cells.flatMap enc_Dyadic)⟩] := hS2
  refine ss0 rfl rfl (Ys_store (i := 1) (s := 5) (B := some ⟨b1, 0, none⟩) (T' := 91) (v := .agg #[.int .i64 0, .int .i64 0, .int .i64 0, .int .i64 0, .int .i64 0]) (vs := [.int .i64 0, .int .i64 0, .int .i64 0, .int .i64 0, .int .i64 0]) (k := 0) (cs' := [.int .i64 0, .int .i64 0, .int .i64 0, .int .i64 0, .int .i64 0]) hS2 k_sz_91_5 rfl rfl rfl rfl rfl rfl rfl (Nat.le_of_ble_eq_true rfl) rfl rfl) ?_
  rintro _ w_2 ⟨rfl, hS3⟩
  have hS3 : ST w0 [] _ [⟨some ⟨b, 0, none⟩, 91, [.int .i64 0, .int .i64 0, .int .i64 0, .int .i64 0, .int .i64 0], 5⟩, ⟨some ⟨b1, 0, none⟩, 91, [.int .i64 0, .int .i64 0, .int .i64 0, .int .i64 0, .int .i64 0], 5⟩] [⟨B, [.int .i64 p.Rows, .int .i64 p.Cols, .slice B1 p.Cells.length c]⟩, ⟨B1, (p.Cells.flatMap enc_Dyadic)⟩, ⟨B2, [.int .i64 p1.Rows, .int .i64 p1.Cols, .slice B3 p1.Cells.length c1]⟩, ⟨B3, (p1.Cells.flatMap enc_Dyadic)⟩] := hS3
  refine rw_nil ?_
  refine cw_seq ?_
  refine cw_seq ?_
  refine cw_region ?_
  refine sq 15 rfl rfl (Y_fieldAddr (B := B) (i := 0) (s := 0) k_fd_62_1_1_3 k_sz_3_1 rfl rfl) ?_
  refine sq 16 rfl rfl (Y_load1 (B := B) (i := 1) (cs := [.int .i64 p.Rows, .int .i64 p.Cols, .slice B1 p.Cells.length c]) (v := .int .i64 p.Cols) k_sc_3 rfl rfl (hS3.rf (i := 0) rfl) rfl) ?_
  refine sq 17 rfl rfl (Y_move (v := .int .i64 0) rfl rfl) ?_
  refine rw_nil ?_
  obtain ⟨hN, hF⟩ := chk_inv hF
  obtain ⟨z, hz, hF1⟩ := bind_inv hF
  refine cw_block ?_
  refine cw_loop (fun k f w => ∃ (i1 : Nat) (A : Int) (B4 : Int) (C : Int) (D : Int) (Exp : Int), FF f [(0, .int .i64 i), (1, .int .i64 j), (2, pt B 0), (3, pt B2 0), (6, pt (some ⟨b, 0, none⟩) 0), (8, pt (some ⟨b1, 0, none⟩) 0), (16, .int .i64 p.Cols), (17, .int .i64 (i1 : Int))] ∧ ST w0 [] w [⟨some ⟨b, 0, none⟩, 91, [.int .i64 0, .int .i64 0, .int .i64 0, .int .i64 0, .int .i64 0], 5⟩, ⟨some ⟨b1, 0, none⟩, 91, [.int .i64 A, .int .i64 B4, .int .i64 C, .int .i64 D, .int .i64 Exp], 5⟩] [⟨B, [.int .i64 p.Rows, .int .i64 p.Cols, .slice B1 p.Cells.length c]⟩, ⟨B1, (p.Cells.flatMap enc_Dyadic)⟩, ⟨B2, [.int .i64 p1.Rows, .int .i64 p1.Cols, .slice B3 p1.Cells.length c1]⟩, ⟨B3, (p1.Cells.flatMap enc_Dyadic)⟩] ∧ i1 + k = p.Cols.toNat ∧ forX (F_impl_MulMatrix_1_l1 p i p1 j) k i1 (A, B4, C, D, Exp) = some z) p.Cols.toNat ⟨0, 0, 0, 0, 0, 0, (FF.cons rfl (FF.cons rfl (FF.cons rfl (FF.cons rfl (FF.cons rfl (FF.cons rfl (FF.cons rfl (FF.cons rfl FF.nil)))))))), (hS3.sel [0, 1] rfl rfl), Nat.zero_add _, hz⟩ ?_
  rintro k_ f w ⟨i1, A, B4, C, D, Exp, hf, hS4, hik, hL⟩
  refine cw_seq ?_
  refine cw_region ?_
  refine sq 18 rfl rfl (Y_lt (k := .i64) (a := (i1 : Int)) (b := p.Cols) rfl (hf.get 17 7 rfl) (hf.get 16 6 rfl)) ?_
  refine rw_nil ?_
  refine cw_seq ?_
  refine cw_cond (b := (decide ((i1 : Int) < p.Cols))) rfl (fun hlt => ?_) (fun hlt => ?_)
  · skip
    have hlt1 : i1 < p.Cols.toNat := by have h := of_decide_eq_true hlt; omega
    obtain ⟨k_1, rfl⟩ : ∃ k2, k_ = k2 + 1 := ⟨k_ - 1, by omega⟩
    obtain ⟨y, hb, hL1⟩ := forX_go hL
    unfold F_impl_MulMatrix_1_l1 at hb
    refine cw_skip ?_
    refine cw_seq ?_
    refine cw_block ?_
    refine cw_seq ?_
    refine cw_region ?_
    refine sq 19 rfl rfl (Y_move (v := .int .i64 (i1 : Int)) rfl (hf.get 17 7 rfl)) ?_
    refine sq 9 rfl rfl (Y_assign (v := .int .i64 (i1 : Int)) rfl rfl) ?_
    refine rw_nil ?_
    refine cw_seq ?_
    obtain ⟨r_2, hc, hb⟩ := bind_inv hb
    obtain ⟨r_3, hc1, hb⟩ := bind_inv hb
    obtain ⟨⟨r_4, r_5⟩, hc2, hb⟩ := bind_inv hb
    refine cw_mid (fun f w => ∃ (B5 : Option Addr), FF f [(0, .int .i64 i), (1, .int .i64 j), (2, pt B 0), (3, pt B2 0), (6, pt (some ⟨b, 0, none⟩) 0), (8, pt (some ⟨b1, 0, none⟩) 0), (10, pt B5 0), (11, .bool r_5), (16, .int .i64 p.Cols), (17, .int .i64 (i1 : Int))] ∧ ST w0 [] w [⟨some ⟨b, 0, none⟩, 91, [.int .i64 0, .int .i64 0, .int .i64 0, .int .i64 0, .int .i64 0], 5⟩, ⟨some ⟨b1, 0, none⟩, 91, [.int .i64 A, .int .i64 B4, .int .i64 C, .int .i64 D, .int .i64 Exp], 5⟩, ⟨B5, 91, [.int .i64 r_4.Num.A, .int .i64 r_4.Num.B, .int .i64 r_4.Num.C, .int .i64 r_4.Num.D, .int .i64 r_4.Exp], 5⟩] [⟨B, [.int .i64 p.Rows, .int .i64 p.Cols, .slice B1 p.Cells.length c]⟩, ⟨B1, (p.Cells.flatMap enc_Dyadic)⟩, ⟨B2, [.int .i64 p1.Rows, .int .i64 p1.Cols, .slice B3 p1.Cells.length c1]⟩, ⟨B3, (p1.Cells.flatMap enc_Dyadic)⟩]) ?_ ?_
    · skip
      refine ra_start (ST.sel hS4 [0, 1] rfl rfl).fn (by kernel_rfl) ?_
      have hS9 := hS4.drew
      refine ra_q 0 21 (v := .agg #[.int .i64 p.Rows, .int .i64 p.Cols, .slice B1 p.Cells.length c]) rfl rfl rfl (by kernel_rfl) (by kernel_rfl) (by kernel_rfl) (ST.sel hS9 [0, 1] rfl rfl) (fun w' hw' => (Y_loadA (B := B) (i := 0) (cs := [.int .i64 p.Rows, .int .i64 p.Cols, .slice B1 p.Cells.length c]) (vs := [.int .i64 p.Rows, .int .i64 p.Cols, .slice B1 p.Cells.length c]) k_ag_62 k_sz_62_3 rfl (hf.get 2 2 rfl) (ST.rf hw' (i := 0) rfl) rfl rfl)) ?_
      refine ra_q 1 22 (v := .int .i64 i) rfl rfl rfl (by kernel_rfl) (by kernel_rfl) (by kernel_rfl) (ST.sel hS9 [0, 1] rfl rfl) (fun w' hw' => (Y_move (v := .int .i64 i) rfl (hf.get 0 0 rfl))) ?_
      refine ra_q 2 23 (v := .int .i64 (i1 : Int)) rfl rfl rfl (by kernel_rfl) (by kernel_rfl) (by kernel_rfl) (ST.sel hS9 [0, 1] rfl rfl) (fun w' hw' => (Y_move (v := .int .i64 (i1 : Int)) rfl rfl)) ?_
      refine ra_q 4 25 (v := .agg #[.int .i64 p1.Rows, .int .i64 p1.Cols, .slice B3 p1.Cells.length c1]) rfl rfl rfl (by kernel_rfl) (by kernel_rfl) (by kernel_rfl) (ST.sel hS9 [0, 1] rfl rfl) (fun w' hw' => (Y_loadA (B := B2) (i := 0) (cs := [.int .i64 p1.Rows, .int .i64 p1.Cols, .slice B3 p1.Cells.length c1]) (vs := [.int .i64 p1.Rows, .int .i64 p1.Cols, .slice B3 p1.Cells.length c1]) k_ag_62 k_sz_62_3 rfl (hf.get 3 3 rfl) (ST.rf hw' (i := 2) rfl) rfl rfl)) ?_
      refine ra_q 5 26 (v := .int .i64 (i1 : Int)) rfl rfl rfl (by kernel_rfl) (by kernel_rfl) (by kernel_rfl) (ST.sel hS9 [0, 1] rfl rfl) (fun w' hw' => (Y_move (v := .int .i64 (i1 : Int)) rfl rfl)) ?_
      refine ra_q 6 27 (v := .int .i64 j) rfl rfl rfl (by kernel_rfl) (by kernel_rfl) (by kernel_rfl) (ST.sel hS9 [0, 1] rfl rfl) (fun w' hw' => (Y_move (v := .int .i64 j) rfl (hf.get 1 1 rfl))) ?_
      refine ra_all (rs := [3, 12]) (by kernel_rfl) rfl ?_
      refine ra_c 24 (i := 3) rfl rfl rfl (Yc_func (g := 158) (vs := [.agg #[.int .i64 p.Rows, .int .i64 p.Cols, .slice B1 p.Cells.length c], .int .i64 i, .int .i64 (i1 : Int)]) k_call_158 rfl (mc rfl (mc rfl (mc rfl mn))) (c_impl_Matrix_at p i (i1 : Int) B1 c p.Cells.length _ rfl (hS9.inn0 [(true, 1)] rfl) hc)) ?_ ?_
      · rintro _ w_3 ⟨rfl, hd⟩
        have hS10 := hS9.out00 hd
        have hS10 : ST w0 [] _ [⟨some ⟨b, 0, none⟩, 91, [.int .i64 0, .int .i64 0, .int .i64 0, .int .i64 0, .int .i64 0], 5⟩, ⟨some ⟨b1, 0, none⟩, 91, [.int .i64 A, .int .i64 B4, .int .i64 C, .int .i64 D, .int .i64 Exp], 5⟩] [⟨B, [.int .i64 p.Rows, .int .i64 p.Cols, .slice B1 p.Cells.length c]⟩, ⟨B1, (p.Cells.flatMap enc_Dyadic)⟩, ⟨B2, [.int .i64 p1.Rows, .int .i64 p1.Cols, .slice B3 p1.Cells.length c1]⟩, ⟨B3, (p1.Cells.flatMap enc_Dyadic)⟩] := hS10
        refine ⟨(ST.sel hS10 [0, 1] rfl rfl), ?_⟩
        refine ra_all (rs := [7, 12]) (by kernel_rfl) rfl ?_
        refine ra_c 28 (i := 7) rfl rfl rfl (Yc_func (g := 158) (vs := [.agg #[.int .i64 p1.Rows, .int .i64 p1.Cols, .slice B3 p1.Cells.length c1], .int .i64 (i1 : Int), .int .i64 j]) k_call_158 rfl (mc rfl (mc rfl (mc rfl mn))) (c_impl_Matrix_at p1 (i1 : Int) j B3 c1 p1.Cells.length _ rfl (hS10.inn0 [(true, 3)] rfl) hc1)) ?_ ?_
        · rintro _ w_4 ⟨rfl, hd1⟩
          have hS11 := hS10.out00 hd1
          have hS11 : ST w0 [] _ [⟨some ⟨b, 0, none⟩, 91, [.int .i64 0, .int .i64 0, .int .i64 0, .int .i64 0, .int .i64 0], 5⟩, ⟨some ⟨b1, 0, none⟩, 91, [.int .i64 A, .int .i64 B4, .int .i64 C, .int .i64 D, .int .i64 Exp], 5⟩] [⟨B, [.int .i64 p.Rows, .int .i64 p.Cols, .slice B1 p.Cells.length c]⟩, ⟨B1, (p.Cells.flatMap enc_Dyadic)⟩, ⟨B2, [.int .i64 p1.Rows, .int .i64 p1.Cols, .slice B3 p1.Cells.length c1]⟩, ⟨B3, (p1.Cells.flatMap enc_Dyadic)⟩] := hS11
          refine ⟨(ST.sel hS11 [0, 1] rfl rfl), ?_⟩
          refine ra_all (rs := [8, 12]) (by kernel_rfl) rfl ?_
          refine ra_c 29 (i := 8) rfl rfl rfl (Yc_func (g := 112) (vs := [.agg #[.int .i64 r_2.Num.A, .int .i64 r_2.Num.B, .int .i64 r_2.Num.C, .int .i64 r_2.Num.D, .int .i64 r_2.Exp], .agg #[.int .i64 r_3.Num.A, .int .i64 r_3.Num.B, .int .i64 r_3.Num.C, .int .i64 r_3.Num.D, .int .i64 r_3.Exp]]) k_call_112 rfl (mc rfl (mc rfl mn)) (c_impl_MulDyadic r_2 r_3 _  (hS11.inn0 [] rfl) hc2)) ?_ ?_
          · rintro _ w_5 ⟨rfl, hd2⟩
            have hS12 := hS11.out00 hd2
            have hS12 : ST w0 [] _ [⟨some ⟨b, 0, none⟩, 91, [.int .i64 0, .int .i64 0, .int .i64 0, .int .i64 0, .int .i64 0], 5⟩, ⟨some ⟨b1, 0, none⟩, 91, [.int .i64 A, .int .i64 B4, .int .i64 C, .int .i64 D, .int .i64 Exp], 5⟩] [⟨B, [.int .i64 p.Rows, .int .i64 p.Cols, .slice B1 p.Cells.length c]⟩, ⟨B1, (p.Cells.flatMap enc_Dyadic)⟩, ⟨B2, [.int .i64 p1.Rows, .int .i64 p1.Cols, .slice B3 p1.Cells.length c1]⟩, ⟨B3, (p1.Cells.flatMap enc_Dyadic)⟩] := hS12
            refine ⟨(ST.sel hS12 [0, 1] rfl rfl), ?_⟩
            refine ra_q 9 20 (v := .tuple #[.agg #[.int .i64 r_4.Num.A, .int .i64 r_4.Num.B, .int .i64 r_4.Num.C, .int .i64 r_4.Num.D, .int .i64 r_4.Exp], .bool r_5]) rfl rfl rfl (by kernel_rfl) (by kernel_rfl) (by kernel_rfl) (ST.sel hS12 [0, 1] rfl rfl) (fun w' hw' => (Y_move (v := .tuple #[.agg #[.int .i64 r_4.Num.A, .int .i64 r_4.Num.B, .int .i64 r_4.Num.C, .int .i64 r_4.Num.D, .int .i64 r_4.Exp], .bool r_5]) rfl rfl)) ?_
            refine ra_q 10 30 (v := .agg #[.int .i64 r_4.Num.A, .int .i64 r_4.Num.B, .int .i64 r_4.Num.C, .int .i64 r_4.Num.D, .int .i64 r_4.Exp]) rfl rfl rfl (by kernel_rfl) (by kernel_rfl) (by kernel_rfl) (ST.sel hS12 [0, 1] rfl rfl) (fun w' hw' => (Y_extract (v := .agg #[.int .i64 r_4.Num.A, .int .i64 r_4.Num.B, .int .i64 r_4.Num.C, .int .i64 r_4.Num.D, .int .i64 r_4.Exp]) rfl rfl rfl)) ?_
            refine ra_q 11 31 (v := .bool r_5) rfl rfl rfl (by kernel_rfl) (by kernel_rfl) (by kernel_rfl) (ST.sel hS12 [0, 1] rfl rfl) (fun w' hw' => (Y_extract (v := .bool r_5) rfl rfl rfl)) ?_
            refine ra_all (rs := [12]) (by kernel_rfl) rfl ?_
            refine ra_s 10 (i := 12) rfl rfl rfl (Ys_alloc (T := 91) (cs := [.int .i64 0, .int .i64 0, .int .i64 0, .int .i64 0, .int .i64 0]) (m := 5) hS12 k_zero_91 rfl rfl rfl) ?_ ?_
            · rintro _ w_6 ⟨b2, rfl, hS13⟩
              have hS13 : ST w0 [] _ [⟨some ⟨b, 0, none⟩, 91, [.int .i64 0, .int .i64 0, .int .i64 0, .int .i64 0, .int .i64 0], 5⟩, ⟨some ⟨b1, 0, none⟩, 91, [.int .i64 A, .int .i64 B4, .int .i64 C, .int .i64 D, .int .i64 Exp], 5⟩, ⟨some ⟨b2, 0, none⟩, 91, [.int .i64 0, .int .i64 0, .int .i64 0, .int .i64 0, .int .i64 0], 5⟩] [⟨B, [.int .i64 p.Rows, .int .i64 p.Cols, .slice B1 p.Cells.length c]⟩, ⟨B1, (p.Cells.flatMap enc_Dyadic)⟩, ⟨B2, [.int .i64 p1.Rows, .int .i64 p1.Cols, .slice B3 p1.Cells.length c1]⟩, ⟨B3, (p1.Cells.flatMap enc_Dyadic)⟩] := hS13
              refine ⟨(ST.sel hS13 [0, 1] rfl rfl), ?_⟩
              refine ra_all (rs := [13]) (by kernel_rfl) rfl ?_
              refine ra_s0 (i := 13) rfl rfl rfl (Ys_store (i := 2) (s := 5) (B := some ⟨b2, 0, none⟩) (T' := 91) (v := .agg #[.int .i64 r_4.Num.A, .int .i64 r_4.Num.B, .int .i64 r_4.Num.C, .int .i64 r_4.Num.D, .int .i64 r_4.Exp]) (vs := [.int .i64 r_4.Num.A, .int .i64 r_4.Num.B, .int .i64 r_4.Num.C, .int .i64 r_4.Num.D, .int .i64 r_4.Exp]) (k := 0) (cs' := [.int .i64 r_4.Num.A, .int .i64 r_4.Num.B, .int .i64 r_4.Num.C, .int .i64 r_4.Num.D, .int .i64 r_4.Exp]) hS13 k_sz_91_5 rfl rfl rfl rfl rfl rfl rfl (Nat.le_of_ble_eq_true rfl) rfl rfl) ?_ ?_
              · rintro _ w_7 ⟨rfl, hS14⟩
                have hS14 : ST w0 [] _ [⟨some ⟨b, 0, none⟩, 91, [.int .i64 0, .int .i64 0, .int .i64 0, .int .i64 0, .int .i64 0], 5⟩, ⟨some ⟨b1, 0, none⟩, 91, [.int .i64 A, .int .i64 B4, .int .i64 C, .int .i64 D, .int .i64 Exp], 5⟩, ⟨some ⟨b2, 0, none⟩, 91, [.int .i64 r_4.Num.A, .int .i64 r_4.Num.B, .int .i64 r_4.Num.C, .int .i64 r_4.Num.D, .int .i64 r_4.Exp], 5⟩] [⟨B, [.int .i64 p.Rows, .int .i64 p.Cols, .slice B1 p.Cells.length c]⟩, ⟨B1, (p.Cells.flatMap enc_Dyadic)⟩, ⟨B2, [.int .i64 p1.Rows, .int .i64 p1.Cols, .slice B3 p1.Cells.length c1]⟩, ⟨B3, (p1.Cells.flatMap enc_Dyadic)⟩] := hS14
                refine ⟨(ST.sel hS14 [0, 1] rfl rfl), ?_⟩
                refine ra_q 14 11 (v := .bool r_5) rfl rfl rfl (by kernel_rfl) (by kernel_rfl) (by kernel_rfl) (ST.sel hS14 [0, 1] rfl rfl) (fun w' hw' => (Y_assign (v := .bool r_5) rfl rfl)) ?_
                refine ra_done (by kernel_rfl) ?_
                exact ⟨some ⟨b2, 0, none⟩, (FF.cons (hf.get 0 0 rfl) (FF.cons (hf.get 1 1 rfl) (FF.cons (hf.get 2 2 rfl) (FF.cons (hf.get 3 3 rfl) (FF.cons (hf.get 6 4 rfl) (FF.cons (hf.get 8 5 rfl) (FF.cons rfl (FF.cons rfl (FF.cons (hf.get 16 6 rfl) (FF.cons (hf.get 17 7 rfl) FF.nil)))))))))), (hS14.sel [0, 1, 2] rfl rfl)⟩
              exact allR_nil
            exact allR_nil
          refine ra_s 10 (i := 12) rfl rfl rfl (Ys_alloc (T := 91) (cs := [.int .i64 0, .int .i64 0, .int .i64 0, .int .i64 0, .int .i64 0]) (m := 5) hS11 k_zero_91 rfl rfl rfl) ?_ ?_
          · rintro _ w_8 ⟨b2, rfl, hS15⟩
            have hS15 : ST w0 [] _ [⟨some ⟨b, 0, none⟩, 91, [.int .i64 0, .int .i64 0, .int .i64 0, .int .i64 0, .int .i64 0], 5⟩, ⟨some ⟨b1, 0, none⟩, 91, [.int .i64 A, .int .i64 B4, .int .i64 C, .int .i64 D, .int .i64 Exp], 5⟩, ⟨some ⟨b2, 0, none⟩, 91, [.int .i64 0, .int .i64 0, .int .i64 0, .int .i64 0, .int .i64 0], 5⟩] [⟨B, [.int .i64 p.Rows, .int .i64 p.Cols, .slice B1 p.Cells.length c]⟩, ⟨B1, (p.Cells.flatMap enc_Dyadic)⟩, ⟨B2, [.int .i64 p1.Rows, .int .i64 p1.Cols, .slice B3 p1.Cells.length c1]⟩, ⟨B3, (p1.Cells.flatMap enc_Dyadic)⟩] := hS15
            refine ⟨(ST.sel hS15 [0, 1] rfl rfl), ?_⟩
            refine ra_all (rs := [8]) (by kernel_rfl) rfl ?_
            refine ra_c 29 (i := 8) rfl rfl rfl (Yc_func (g := 112) (vs := [.agg #[.int .i64 r_2.Num.A, .int .i64 r_2.Num.B, .int .i64 r_2.Num.C, .int .i64 r_2.Num.D, .int .i64 r_2.Exp], .agg #[.int .i64 r_3.Num.A, .int .i64 r_3.Num.B, .int .i64 r_3.Num.C, .int .i64 r_3.Num.D, .int .i64 r_3.Exp]]) k_call_112 rfl (mc rfl (mc rfl mn)) (c_impl_MulDyadic r_2 r_3 _  (hS15.inn0 [] rfl) hc2)) ?_ ?_
            · rintro _ w_9 ⟨rfl, hd3⟩
              have hS16 := hS15.out00 hd3
              have hS16 : ST w0 [] _ [⟨some ⟨b, 0, none⟩, 91, [.int .i64 0, .int .i64 0, .int .i64 0, .int .i64 0, .int .i64 0], 5⟩, ⟨some ⟨b1, 0, none⟩, 91, [.int .i64 A, .int .i64 B4, .int .i64 C, .int .i64 D, .int .i64 Exp], 5⟩, ⟨some ⟨b2, 0, none⟩, 91, [.int .i64 0, .int .i64 0, .int .i64 0, .int .i64 0, .int .i64 0], 5⟩] [⟨B, [.int .i64 p.Rows, .int .i64 p.Cols, .slice B1 p.Cells.length c]⟩, ⟨B1, (p.Cells.flatMap enc_Dyadic)⟩, ⟨B2, [.int .i64 p1.Rows, .int .i64 p1.Cols, .slice B3 p1.Cells.length c1]⟩, ⟨B3, (p1.Cells.flatMap enc_Dyadic)⟩] := hS16
              refine ⟨(ST.sel hS16 [0, 1] rfl rfl), ?_⟩
              refine ra_q 9 20 (v := .tuple #[.agg #[.int .i64 r_4.Num.A, .int .i64 r_4.Num.B, .int .i64 r_4.Num.C, .int .i64 r_4.Num.D, .int .i64 r_4.Exp], .bool r_5]) rfl rfl rfl (by kernel_rfl) (by kernel_rfl) (by kernel_rfl) (ST.sel hS16 [0, 1] rfl rfl) (fun w' hw' => (Y_move (v := .tuple #[.agg #[.int .i64 r_4.Num.A, .int .i64 r_4.Num.B, .int .i64 r_4.Num.C, .int .i64 r_4.Num.D, .int .i64 r_4.Exp], .bool r_5]) rfl rfl)) ?_
              refine ra_q 10 30 (v := .agg #[.int .i64 r_4.Num.A, .int .i64 r_4.Num.B, .int .i64 r_4.Num.C, .int .i64 r_4.Num.D, .int .i64 r_4.Exp]) rfl rfl rfl (by kernel_rfl) (by kernel_rfl) (by kernel_rfl) (ST.sel hS16 [0, 1] rfl rfl) (fun w' hw' => (Y_extract (v := .agg #[.int .i64 r_4.Num.A, .int .i64 r_4.Num.B, .int .i64 r_4.Num.C, .int .i64 r_4.Num.D, .int .i64 r_4.Exp]) rfl rfl rfl)) ?_
              refine ra_q 11 31 (v := .bool r_5) rfl rfl rfl (by kernel_rfl) (by kernel_rfl) (by kernel_rfl) (ST.sel hS16 [0, 1] rfl rfl) (fun w' hw' => (Y_extract (v := .bool r_5) rfl rfl rfl)) ?_
              refine ra_all (rs := [13]) (by kernel_rfl) rfl ?_
              refine ra_s0 (i := 13) rfl rfl rfl (Ys_store (i := 2) (s := 5) (B := some ⟨b2, 0, none⟩) (T' := 91) (v := .agg #[.int .i64 r_4.Num.A, .int .i64 r_4.Num.B, .int .i64 r_4.Num.C, .int .i64 r_4.Num.D, .int .i64 r_4.Exp]) (vs := [.int .i64 r_4.Num.A, .int .i64 r_4.Num.B, .int .i64 r_4.Num.C, .int .i64 r_4.Num.D, .int .i64 r_4.Exp]) (k := 0) (cs' := [.int .i64 r_4.Num.A, .int .i64 r_4.Num.B, .int .i64 r_4.Num.C, .int .i64 r_4.Num.D, .int .i64 r_4.Exp]) hS16 k_sz_91_5 rfl rfl rfl rfl rfl rfl rfl (Nat.le_of_ble_eq_true rfl) rfl rfl) ?_ ?_
              · rintro _ w_10 ⟨rfl, hS17⟩
                have hS17 : ST w0 [] _ [⟨some ⟨b, 0, none⟩, 91, [.int .i64 0, .int .i64 0, .int .i64 0, .int .i64 0, .int .i64 0], 5⟩, ⟨some ⟨b1, 0, none⟩, 91, [.int .i64 A, .int .i64 B4, .int .i64 C, .int .i64 D, .int .i64 Exp], 5⟩, ⟨some ⟨b2, 0, none⟩, 91, [.int .i64 r_4.Num.A, .int .i64 r_4.Num.B, .int .i64 r_4.Num.C, .int .i64 r_4.Num.D, .int .i64 r_4.Exp], 5⟩] [⟨B, [.int .i64 p.Rows, .int .i64 p.Cols, .slice B1 p.Cells.length c]⟩, ⟨B1, (p.Cells.flatMap enc_Dyadic)⟩, ⟨B2, [.int .i64 p1.Rows, .int .i64 p1.Cols, .slice B3 p1.Cells.length c1]⟩, ⟨B3, (p1.Cells.flatMap enc_Dyadic)⟩] := hS17
                refine ⟨(ST.sel hS17 [0, 1] rfl rfl), ?_⟩
                refine ra_q 14 11 (v := .bool r_5) rfl rfl rfl (by kernel_rfl) (by kernel_rfl) (by kernel_rfl) (ST.sel hS17 [0, 1] rfl rfl) (fun w' hw' => (Y_assign (v := .bool r_5) rfl rfl)) ?_
                refine ra_done (by kernel_rfl) ?_
                exact ⟨some ⟨b2, 0, none⟩, (FF.cons (hf.get 0 0 rfl) (FF.cons (hf.get 1 1 rfl) (FF.cons (hf.get 2 2 rfl) (FF.cons (hf.get 3 3 rfl) (FF.cons (hf.get 6 4 rfl) (FF.cons (hf.get 8 5 rfl) (FF.cons rfl (FF.cons rfl (FF.cons (hf.get 16 6 rfl) (FF.cons (hf.get 17 7 rfl) FF.nil)))))))))), (hS17.sel [0, 1, 2] rfl rfl)⟩
              exact allR_nil
            exact allR_nil
          exact allR_nil
        refine ra_s 10 (i := 12) rfl rfl rfl (Ys_alloc (T := 91) (cs := [.int .i64 0, .int .i64 0, .int .i64 0, .int .i64 0, .int .i64 0]) (m := 5) hS10 k_zero_91 rfl rfl rfl) ?_ ?_
        · rintro _ w_11 ⟨b2, rfl, hS18⟩
          have hS18 : ST w0 [] _ [⟨some ⟨b, 0, none⟩, 91, [.int .i64 0, .int .i64 0, .int .i64 0, .int .i64 0, .int .i64 0], 5⟩, ⟨some ⟨b1, 0, none⟩, 91, [.int .i64 A, .int .i64 B4, .int .i64 C, .int .i64 D, .int .i64 Exp], 5⟩, ⟨some ⟨b2, 0, none⟩, 91, [.int .i64 0, .int .i64 0, .int .i64 0, .int .i64 0, .int .i64 0], 5⟩] [⟨B, [.int .i64 p.Rows, .int .i64 p.Cols, .slice B1 p.Cells.length c]⟩, ⟨B1, (p.Cells.flatMap enc_Dyadic)⟩, ⟨B2, [.int .i64 p1.Rows, .int .i64 p1.Cols, .slice B3 p1.Cells.length c1]⟩, ⟨B3, (p1.Cells.flatMap enc_Dyadic)⟩] := hS18
          refine ⟨(ST.sel hS18 [0, 1] rfl rfl), ?_⟩
          refine ra_all (rs := [7]) (by kernel_rfl) rfl ?_
          refine ra_c 28 (i := 7) rfl rfl rfl (Yc_func (g := 158) (vs := [.agg #[.int .i64 p1.Rows, .int .i64 p1.Cols, .slice B3 p1.Cells.length c1], .int .i64 (i1 : Int), .int .i64 j]) k_call_158 rfl (mc rfl (mc rfl (mc rfl mn))) (c_impl_Matrix_at p1 (i1 : Int) j B3 c1 p1.Cells.length _ rfl (hS18.inn0 [(true, 3)] rfl) hc1)) ?_ ?_
          · rintro _ w_12 ⟨rfl, hd4⟩
            have hS19 := hS18.out00 hd4
            have hS19 : ST w0 [] _ [⟨some ⟨b, 0, none⟩, 91, [.int .i64 0, .int .i64 0, .int .i64 0, .int .i64 0, .int .i64 0], 5⟩, ⟨some ⟨b1, 0, none⟩, 91, [.int .i64 A, .int .i64 B4, .int .i64 C, .int .i64 D, .int .i64 Exp], 5⟩, ⟨some ⟨b2, 0, none⟩, 91, [.int .i64 0, .int .i64 0, .int .i64 0, .int .i64 0, .int .i64 0], 5⟩] [⟨B, [.int .i64 p.Rows, .int .i64 p.Cols, .slice B1 p.Cells.length c]⟩, ⟨B1, (p.Cells.flatMap enc_Dyadic)⟩, ⟨B2, [.int .i64 p1.Rows, .int .i64 p1.Cols, .slice B3 p1.Cells.length c1]⟩, ⟨B3, (p1.Cells.flatMap enc_Dyadic)⟩] := hS19
            refine ⟨(ST.sel hS19 [0, 1] rfl rfl), ?_⟩
            refine ra_all (rs := [8]) (by kernel_rfl) rfl ?_
            refine ra_c 29 (i := 8) rfl rfl rfl (Yc_func (g := 112) (vs := [.agg #[.int .i64 r_2.Num.A, .int .i64 r_2.Num.B, .int .i64 r_2.Num.C, .int .i64 r_2.Num.D, .int .i64 r_2.Exp], .agg #[.int .i64 r_3.Num.A, .int .i64 r_3.Num.B, .int .i64 r_3.Num.C, .int .i64 r_3.Num.D, .int .i64 r_3.Exp]]) k_call_112 rfl (mc rfl (mc rfl mn)) (c_impl_MulDyadic r_2 r_3 _  (hS19.inn0 [] rfl) hc2)) ?_ ?_
            · rintro _ w_13 ⟨rfl, hd5⟩
              have hS20 := hS19.out00 hd5
              have hS20 : ST w0 [] _ [⟨some ⟨b, 0, none⟩, 91, [.int .i64 0, .int .i64 0, .int .i64 0, .int .i64 0, .int .i64 0], 5⟩, ⟨some ⟨b1, 0, none⟩, 91, [.int .i64 A, .int .i64 B4, .int .i64 C, .int .i64 D, .int .i64 Exp], 5⟩, ⟨some ⟨b2, 0, none⟩, 91, [.int .i64 0, .int .i64 0, .int .i64 0, .int .i64 0, .int .i64 0], 5⟩] [⟨B, [.int .i64 p.Rows, .int .i64 p.Cols, .slice B1 p.Cells.length c]⟩, ⟨B1, (p.Cells.flatMap enc_Dyadic)⟩, ⟨B2, [.int .i64 p1.Rows, .int .i64 p1.Cols, .slice B3 p1.Cells.length c1]⟩, ⟨B3, (p1.Cells.flatMap enc_Dyadic)⟩] := hS20
              refine ⟨(ST.sel hS20 [0, 1] rfl rfl), ?_⟩
              refine ra_q 9 20 (v := .tuple #[.agg #[.int .i64 r_4.Num.A, .int .i64 r_4.Num.B, .int .i64 r_4.Num.C, .int .i64 r_4.Num.D, .int .i64 r_4.Exp], .bool r_5]) rfl rfl rfl (by kernel_rfl) (by kernel_rfl) (by kernel_rfl) (ST.sel hS20 [0, 1] rfl rfl) (fun w' hw' => (Y_move (v := .tuple #[.agg #[.int .i64 r_4.Num.A, .int .i64 r_4.Num.B, .int .i64 r_4.Num.C, .int .i64 r_4.Num.D, .int .i64 r_4.Exp], .bool r_5]) rfl rfl)) ?_
              refine ra_q 10 30 (v := .agg #[.int .i64 r_4.Num.A, .int .i64 r_4.Num.B, .int .i64 r_4.Num.C, .int .i64 r_4.Num.D, .int .i64 r_4.Exp]) rfl rfl rfl (by kernel_rfl) (by kernel_rfl) (by kernel_rfl) (ST.sel hS20 [0, 1] rfl rfl) (fun w' hw' => (Y_extract (v := .agg #[.int .i64 r_4.Num.A, .int .i64 r_4.Num.B, .int .i64 r_4.Num.C, .int .i64 r_4.Num.D, .int .i64 r_4.Exp]) rfl rfl rfl)) ?_
              refine ra_q 11 31 (v := .bool r_5) rfl rfl rfl (by kernel_rfl) (by kernel_rfl) (by kernel_rfl) (ST.sel hS20 [0, 1] rfl rfl) (fun w' hw' => (Y_extract (v := .bool r_5) rfl rfl rfl)) ?_
              refine ra_all (rs := [13]) (by kernel_rfl) rfl ?_
              refine ra_s0 (i := 13) rfl rfl rfl (Ys_store (i := 2) (s := 5) (B := some ⟨b2, 0, none⟩) (T' := 91) (v := .agg #[.int .i64 r_4.Num.A, .int .i64 r_4.Num.B, .int .i64 r_4.Num.C, .int .i64 r_4.Num.D, .int .i64 r_4.Exp]) (vs := [.int .i64 r_4.Num.A, .int .i64 r_4.Num.B, .int .i64 r_4.Num.C, .int .i64 r_4.Num.D, .int .i64 r_4.Exp]) (k := 0) (cs' := [.int .i64 r_4.Num.A, .int .i64 r_4.Num.B, .int .i64 r_4.Num.C, .int .i64 r_4.Num.D, .int .i64 r_4.Exp]) hS20 k_sz_91_5 rfl rfl rfl rfl rfl rfl rfl (Nat.le_of_ble_eq_true rfl) rfl rfl) ?_ ?_
              · rintro _ w_14 ⟨rfl, hS21⟩
                have hS21 : ST w0 [] _ [⟨some ⟨b, 0, none⟩, 91, [.int .i64 0, .int .i64 0, .int .i64 0, .int .i64 0, .int .i64 0], 5⟩, ⟨some ⟨b1, 0, none⟩, 91, [.int .i64 A, .int .i64 B4, .int .i64 C, .int .i64 D, .int .i64 Exp], 5⟩, ⟨some ⟨b2, 0, none⟩, 91, [.int .i64 r_4.Num.A, .int .i64 r_4.Num.B, .int .i64 r_4.Num.C, .int .i64 r_4.Num.D, .int .i64 r_4.Exp], 5⟩] [⟨B, [.int .i64 p.Rows, .int .i64 p.Cols, .slice B1 p.Cells.length c]⟩, ⟨B1, (p.Cells.flatMap enc_Dyadic)⟩, ⟨B2, [.int .i64 p1.Rows, .int .i64 p1.Cols, .slice B3 p1.Cells.length c1]⟩, ⟨B3, (p1.Cells.flatMap enc_Dyadic)⟩] := hS21
                refine ⟨(ST.sel hS21 [0, 1] rfl rfl), ?_⟩
                refine ra_q 14 11 (v := .bool r_5) rfl rfl rfl (by kernel_rfl) (by kernel_rfl) (by kernel_rfl) (ST.sel hS21 [0, 1] rfl rfl) (fun w' hw' => (Y_assign (v := .bool r_5) rfl rfl)) ?_
                refine ra_done (by kernel_rfl) ?_
                exact ⟨some ⟨b2, 0, none⟩, (FF.cons (hf.get 0 0 rfl) (FF.cons (hf.get 1 1 rfl) (FF.cons (hf.get 2 2 rfl) (FF.cons (hf.get 3 3 rfl) (FF.cons (hf.get 6 4 rfl) (FF.cons (hf.get 8 5 rfl) (FF.cons rfl (FF.cons rfl (FF.cons (hf.get 16 6 rfl) (FF.cons (hf.get 17 7 rfl) FF.nil)))))))))), (hS21.sel [0, 1, 2] rfl rfl)⟩
              exact allR_nil
            exact allR_nil
          exact allR_nil
        exact allR_nil
      refine ra_s 10 (i := 12) rfl rfl rfl (Ys_alloc (T := 91) (cs := [.int .i64 0, .int .i64 0, .int .i64 0, .int .i64 0, .int .i64 0]) (m := 5) hS9 k_zero_91 rfl rfl rfl) ?_ ?_
      · rintro _ w_15 ⟨b2, rfl, hS22⟩
        have hS22 : ST w0 [] _ [⟨some ⟨b, 0, none⟩, 91, [.int .i64 0, .int .i64 0, .int .i64 0, .int .i64 0, .int .i64 0], 5⟩, ⟨some ⟨b1, 0, none⟩, 91, [.int .i64 A, .int .i64 B4, .int .i64 C, .int .i64 D, .int .i64 Exp], 5⟩, ⟨some ⟨b2, 0, none⟩, 91, [.int .i64 0, .int .i64 0, .int .i64 0, .int .i64 0, .int .i64 0], 5⟩] [⟨B, [.int .i64 p.Rows, .int .i64 p.Cols, .slice B1 p.Cells.length c]⟩, ⟨B1, (p.Cells.flatMap enc_Dyadic)⟩, ⟨B2, [.int .i64 p1.Rows, .int .i64 p1.Cols, .slice B3 p1.Cells.length c1]⟩, ⟨B3, (p1.Cells.flatMap enc_Dyadic)⟩] := hS22
        refine ⟨(ST.sel hS22 [0, 1] rfl rfl), ?_⟩
        refine ra_all (rs := [3]) (by kernel_rfl) rfl ?_
        refine ra_c 24 (i := 3) rfl rfl rfl (Yc_func (g := 158) (vs := [.agg #[.int .i64 p.Rows, .int .i64 p.Cols, .slice B1 p.Cells.length c], .int .i64 i, .int .i64 (i1 : Int)]) k_call_158 rfl (mc rfl (mc rfl (mc rfl mn))) (c_impl_Matrix_at p i (i1 : Int) B1 c p.Cells.length _ rfl (hS22.inn0 [(true, 1)] rfl) hc)) ?_ ?_
        · rintro _ w_16 ⟨rfl, hd6⟩
          have hS23 := hS22.out00 hd6
          have hS23 : ST w0 [] _ [⟨some ⟨b, 0, none⟩, 91, [.int .i64 0, .int .i64 0, .int .i64 0, .int .i64 0, .int .i64 0], 5⟩, ⟨some ⟨b1, 0, none⟩, 91, [.int .i64 A, .int .i64 B4, .int .i64 C, .int .i64 D, .int .i64 Exp], 5⟩, ⟨some ⟨b2, 0, none⟩, 91, [.int .i64 0, .int .i64 0, .int .i64 0, .int .i64 0, .int .i64 0], 5⟩] [⟨B, [.int .i64 p.Rows, .int .i64 p.Cols, .slice B1 p.Cells.length c]⟩, ⟨B1, (p.Cells.flatMap enc_Dyadic)⟩, ⟨B2, [.int .i64 p1.Rows, .int .i64 p1.Cols, .slice B3 p1.Cells.length c1]⟩, ⟨B3, (p1.Cells.flatMap enc_Dyadic)⟩] := hS23
          refine ⟨(ST.sel hS23 [0, 1] rfl rfl), ?_⟩
          refine ra_all (rs := [7]) (by kernel_rfl) rfl ?_
          refine ra_c 28 (i := 7) rfl rfl rfl (Yc_func (g := 158) (vs := [.agg #[.int .i64 p1.Rows, .int .i64 p1.Cols, .slice B3 p1.Cells.length c1], .int .i64 (i1 : Int), .int .i64 j]) k_call_158 rfl (mc rfl (mc rfl (mc rfl mn))) (c_impl_Matrix_at p1 (i1 : Int) j B3 c1 p1.Cells.length _ rfl (hS23.inn0 [(true, 3)] rfl) hc1)) ?_ ?_
          · rintro _ w_17 ⟨rfl, hd7⟩
            have hS24 := hS23.out00 hd7
            have hS24 : ST w0 [] _ [⟨some ⟨b, 0, none⟩, 91, [.int .i64 0, .int .i64 0, .int .i64 0, .int .i64 0, .int .i64 0], 5⟩, ⟨some ⟨b1, 0, none⟩, 91, [.int .i64 A, .int .i64 B4, .int .i64 C, .int .i64 D, .int .i64 Exp], 5⟩, ⟨some ⟨b2, 0, none⟩, 91, [.int .i64 0, .int .i64 0, .int .i64 0, .int .i64 0, .int .i64 0], 5⟩] [⟨B, [.int .i64 p.Rows, .int .i64 p.Cols, .slice B1 p.Cells.length c]⟩, ⟨B1, (p.Cells.flatMap enc_Dyadic)⟩, ⟨B2, [.int .i64 p1.Rows, .int .i64 p1.Cols, .slice B3 p1.Cells.length c1]⟩, ⟨B3, (p1.Cells.flatMap enc_Dyadic)⟩] := hS24
            refine ⟨(ST.sel hS24 [0, 1] rfl rfl), ?_⟩
            refine ra_all (rs := [8]) (by kernel_rfl) rfl ?_
            refine ra_c 29 (i := 8) rfl rfl rfl (Yc_func (g := 112) (vs := [.agg #[.int .i64 r_2.Num.A, .int .i64 r_2.Num.B, .int .i64 r_2.Num.C, .int .i64 r_2.Num.D, .int .i64 r_2.Exp], .agg #[.int .i64 r_3.Num.A, .int .i64 r_3.Num.B, .int .i64 r_3.Num.C, .int .i64 r_3.Num.D, .int .i64 r_3.Exp]]) k_call_112 rfl (mc rfl (mc rfl mn)) (c_impl_MulDyadic r_2 r_3 _  (hS24.inn0 [] rfl) hc2)) ?_ ?_
            · rintro _ w_18 ⟨rfl, hd8⟩
              have hS25 := hS24.out00 hd8
              have hS25 : ST w0 [] _ [⟨some ⟨b, 0, none⟩, 91, [.int .i64 0, .int .i64 0, .int .i64 0, .int .i64 0, .int .i64 0], 5⟩, ⟨some ⟨b1, 0, none⟩, 91, [.int .i64 A, .int .i64 B4, .int .i64 C, .int .i64 D, .int .i64 Exp], 5⟩, ⟨some ⟨b2, 0, none⟩, 91, [.int .i64 0, .int .i64 0, .int .i64 0, .int .i64 0, .int .i64 0], 5⟩] [⟨B, [.int .i64 p.Rows, .int .i64 p.Cols, .slice B1 p.Cells.length c]⟩, ⟨B1, (p.Cells.flatMap enc_Dyadic)⟩, ⟨B2, [.int .i64 p1.Rows, .int .i64 p1.Cols, .slice B3 p1.Cells.length c1]⟩, ⟨B3, (p1.Cells.flatMap enc_Dyadic)⟩] := hS25
              refine ⟨(ST.sel hS25 [0, 1] rfl rfl), ?_⟩
              refine ra_q 9 20 (v := .tuple #[.agg #[.int .i64 r_4.Num.A, .int .i64 r_4.Num.B, .int .i64 r_4.Num.C, .int .i64 r_4.Num.D, .int .i64 r_4.Exp], .bool r_5]) rfl rfl rfl (by kernel_rfl) (by kernel_rfl) (by kernel_rfl) (ST.sel hS25 [0, 1] rfl rfl) (fun w' hw' => (Y_move (v := .tuple #[.agg #[.int .i64 r_4.Num.A, .int .i64 r_4.Num.B, .int .i64 r_4.Num.C, .int .i64 r_4.Num.D, .int .i64 r_4.Exp], .bool r_5]) rfl rfl)) ?_
              refine ra_q 10 30 (v := .agg #[.int .i64 r_4.Num.A, .int .i64 r_4.Num.B, .int .i64 r_4.Num.C, .int .i64 r_4.Num.D, .int .i64 r_4.Exp]) rfl rfl rfl (by kernel_rfl) (by kernel_rfl) (by kernel_rfl) (ST.sel hS25 [0, 1] rfl rfl) (fun w' hw' => (Y_extract (v := .agg #[.int .i64 r_4.Num.A, .int .i64 r_4.Num.B, .int .i64 r_4.Num.C, .int .i64 r_4.Num.D, .int .i64 r_4.Exp]) rfl rfl rfl)) ?_
              refine ra_q 11 31 (v := .bool r_5) rfl rfl rfl (by kernel_rfl) (by kernel_rfl) (by kernel_rfl) (ST.sel hS25 [0, 1] rfl rfl) (fun w' hw' => (Y_extract (v := .bool r_5) rfl rfl rfl)) ?_
              refine ra_all (rs := [13]) (by kernel_rfl) rfl ?_
              refine ra_s0 (i := 13) rfl rfl rfl (Ys_store (i := 2) (s := 5) (B := some ⟨b2, 0, none⟩) (T' := 91) (v := .agg #[.int .i64 r_4.Num.A, .int .i64 r_4.Num.B, .int .i64 r_4.Num.C, .int .i64 r_4.Num.D, .int .i64 r_4.Exp]) (vs := [.int .i64 r_4.Num.A, .int .i64 r_4.Num.B, .int .i64 r_4.Num.C, .int .i64 r_4.Num.D, .int .i64 r_4.Exp]) (k := 0) (cs' := [.int .i64 r_4.Num.A, .int .i64 r_4.Num.B, .int .i64 r_4.Num.C, .int .i64 r_4.Num.D, .int .i64 r_4.Exp]) hS25 k_sz_91_5 rfl rfl rfl rfl rfl rfl rfl (Nat.le_of_ble_eq_true rfl) rfl rfl) ?_ ?_
              · rintro _ w_19 ⟨rfl, hS26⟩
                have hS26 : ST w0 [] _ [⟨some ⟨b, 0, none⟩, 91, [.int .i64 0, .int .i64 0, .int .i64 0, .int .i64 0, .int .i64 0], 5⟩, ⟨some ⟨b1, 0, none⟩, 91, [.int .i64 A, .int .i64 B4, .int .i64 C, .int .i64 D, .int .i64 Exp], 5⟩, ⟨some ⟨b2, 0, none⟩, 91, [.int .i64 r_4.Num.A, .int .i64 r_4.Num.B, .int .i64 r_4.Num.C, .int .i64 r_4.Num.D, .int .i64 r_4.Exp], 5⟩] [⟨B, [.int .i64 p.Rows, .int .i64 p.Cols, .slice B1 p.Cells.length c]⟩, ⟨B1, (p.Cells.flatMap enc_Dyadic)⟩, ⟨B2, [.int .i64 p1.Rows, .int .i64 p1.Cols, .slice B3 p1.Cells.length c1]⟩, ⟨B3, (p1.Cells.flatMap enc_Dyadic)⟩] := hS26
                refine ⟨(ST.sel hS26 [0, 1] rfl rfl), ?_⟩
                refine ra_q 14 11 (v := .bool r_5) rfl rfl rfl (by kernel_rfl) (by kernel_rfl) (by kernel_rfl) (ST.sel hS26 [0, 1] rfl rfl) (fun w' hw' => (Y_assign (v := .bool r_5) rfl rfl)) ?_
                refine ra_done (by kernel_rfl) ?_
                exact ⟨some ⟨b2, 0, none⟩, (FF.cons (hf.get 0 0 rfl) (FF.cons (hf.get 1 1 rfl) (FF.cons (hf.get 2 2 rfl) (FF.cons (hf.get 3 3 rfl) (FF.cons (hf.get 6 4 rfl) (FF.cons (hf.get 8 5 rfl) (FF.cons rfl (FF.cons rfl (FF.cons (hf.get 16 6 rfl) (FF.cons (hf.get 17 7 rfl) FF.nil)))))))))), (hS26.sel [0, 1, 2] rfl rfl)⟩
              exact allR_nil
            exact allR_nil
          exact allR_nil
        exact allR_nil
      exact allR_nil
    rintro f w ⟨B5, hf1, hS8⟩
    refine cw_seq ?_
    refine cw_region ?_
    refine sq 33 rfl rfl (Y_loadA (B := some ⟨b1, 0, none⟩) (i := 0) (cs := [.int .i64 A, .int .i64 B4, .int .i64 C, .int .i64 D, .int .i64 Exp]) (vs := [.int .i64 A, .int .i64 B4, .int .i64 C, .int .i64 D, .int .i64 Exp]) k_ag_91 k_sz_91_5 rfl (hf1.get 8 5 rfl) (hS8.cf (i := 1) rfl) rfl rfl) ?_
    refine sq 34 rfl rfl (Y_loadA (B := B5) (i := 0) (cs := [.int .i64 r_4.Num.A, .int .i64 r_4.Num.B, .int .i64 r_4.Num.C, .int .i64 r_4.Num.D, .int .i64 r_4.Exp]) (vs := [.int .i64 r_4.Num.A, .int .i64 r_4.Num.B, .int .i64 r_4.Num.C, .int .i64 r_4.Num.D, .int .i64 r_4.Exp]) k_ag_91 k_sz_91_5 rfl (hf1.get 10 6 rfl) (hS8.cf (i := 2) rfl) rfl rfl) ?_
    obtain ⟨⟨r_6, r_7⟩, hc3, hb⟩ := bind_inv hb
    refine sc 35 rfl rfl (Yc_func (g := 135) (vs := [.agg #[.int .i64 A, .int .i64 B4, .int .i64 C, .int .i64 D, .int .i64 Exp], .agg #[.int .i64 r_4.Num.A, .int .i64 r_4.Num.B, .int .i64 r_4.Num.C, .int .i64 r_4.Num.D, .int .i64 r_4.Exp]]) k_call_135 rfl (mc rfl (mc rfl mn)) (c_impl_AddDyadic (TDyadic.mk (TRing.mk A B4 C D) Exp) r_4 _  (hS8.inn0 [] rfl) hc3)) ?_
    rintro _ w_20 ⟨rfl, hd9⟩
    have hS27 := hS8.out00 hd9
    have hS27 : ST w0 [] _ [⟨some ⟨b, 0, none⟩, 91, [.int .i64 0, .int .i64 0, .int .i64 0, .int .i64 0, .int .i64 0], 5⟩, ⟨some ⟨b1, 0, none⟩, 91, [.int .i64 A, .int .i64 B4, .int .i64 C, .int .i64 D, .int .i64 Exp], 5⟩, ⟨B5, 91, [.int .i64 r_4.Num.A, .int .i64 r_4.Num.B, .int .i64 r_4.Num.C, .int .i64 r_4.Num.D, .int .i64 r_4.Exp], 5⟩] [⟨B, [.int .i64 p.Rows, .int .i64 p.Cols, .slice B1 p.Cells.length c]⟩, ⟨B1, (p.Cells.flatMap enc_Dyadic)⟩, ⟨B2, [.int .i64 p1.Rows, .int .i64 p1.Cols, .slice B3 p1.Cells.length c1]⟩, ⟨B3, (p1.Cells.flatMap enc_Dyadic)⟩] := hS27
    refine sq 32 rfl rfl (Y_move (v := .tuple #[.agg #[.int .i64 r_6.Num.A, .int .i64 r_6.Num.B, .int .i64 r_6.Num.C, .int .i64 r_6.Num.D, .int .i64 r_6.Exp], .bool r_7]) rfl rfl) ?_
    refine sq 36 rfl rfl (Y_extract (v := .agg #[.int .i64 r_6.Num.A, .int .i64 r_6.Num.B, .int .i64 r_6.Num.C, .int .i64 r_6.Num.D, .int .i64 r_6.Exp]) rfl rfl rfl) ?_
    refine sq 37 rfl rfl (Y_extract (v := .bool r_7) rfl rfl rfl) ?_
    refine ss 12 rfl rfl (Ys_alloc (T := 91) (cs := [.int .i64 0, .int .i64 0, .int .i64 0, .int .i64 0, .int .i64 0]) (m := 5) hS27 k_zero_91 rfl rfl rfl) ?_
    rintro _ w_21 ⟨b3, rfl, hS28⟩
    have hS28 : ST w0 [] _ [⟨some ⟨b, 0, none⟩, 91, [.int .i64 0, .int .i64 0, .int .i64 0, .int .i64 0, .int .i64 0], 5⟩, ⟨some ⟨b1, 0, none⟩, 91, [.int .i64 A, .int .i64 B4, .int .i64 C, .int .i64 D, .int .i64 Exp], 5⟩, ⟨B5, 91, [.int .i64 r_4.Num.A, .int .i64 r_4.Num.B, .int .i64 r_4.Num.C, .int .i64 r_4.Num.D, .int .i64 r_4.Exp], 5⟩, ⟨some ⟨b3, 0, none⟩, 91, [.int .i64 0, .int .i64 0, .int .i64 0, .int .i64 0, .int .i64 0], 5⟩] [⟨B, [.int .i64 p.Rows, .int .i64 p.Cols, .slice B1 p.Cells.length c]⟩, ⟨B1, (p.Cells.flatMap enc_Dyadic)⟩, ⟨B2, [.int .i64 p1.Rows, .int .i64 p1.Cols, .slice B3 p1.Cells.length c1]⟩, ⟨B3, (p1.Cells.flatMap enc_Dyadic)⟩] := hS28
    refine ss0 rfl rfl (Ys_store (i := 3) (s := 5) (B := some ⟨b3, 0, none⟩) (T' := 91) (v := .agg #[.int .i64 r_6.Num.A, .int .i64 r_6.Num.B, .int .i64 r_6.Num.C, .int .i64 r_6.Num.D, .int .i64 r_6.Exp]) (vs := [.int .i64 r_6.Num.A, .int .i64 r_6.Num.B, .int .i64 r_6.Num.C, .int .i64 r_6.Num.D, .int .i64 r_6.Exp]) (k := 0) (cs' := [.int .i64 r_6.Num.A, .int .i64 r_6.Num.B, .int .i64 r_6.Num.C, .int .i64 r_6.Num.D, .int .i64 r_6.Exp]) hS28 k_sz_91_5 rfl rfl rfl rfl rfl rfl rfl (Nat.le_of_ble_eq_true rfl) rfl rfl) ?_
    rintro _ w_22 ⟨rfl, hS29⟩
    have hS29 : ST w0 [] _ [⟨some ⟨b, 0, none⟩, 91, [.int .i64 0, .int .i64 0, .int .i64 0, .int .i64 0, .int .i64 0], 5⟩, ⟨some ⟨b1, 0, none⟩, 91, [.int .i64 A, .int .i64 B4, .int .i64 C, .int .i64 D, .int .i64 Exp], 5⟩, ⟨B5, 91, [.int .i64 r_4.Num.A, .int .i64 r_4.Num.B, .int .i64 r_4.Num.C, .int .i64 r_4.Num.D, .int .i64 r_4.Exp], 5⟩, ⟨some ⟨b3, 0, none⟩, 91, [.int .i64 r_6.Num.A, .int .i64 r_6.Num.B, .int .i64 r_6.Num.C, .int .i64 r_6.Num.D, .int .i64 r_6.Exp], 5⟩] [⟨B, [.int .i64 p.Rows, .int .i64 p.Cols, .slice B1 p.Cells.length c]⟩, ⟨B1, (p.Cells.flatMap enc_Dyadic)⟩, ⟨B2, [.int .i64 p1.Rows, .int .i64 p1.Cols, .slice B3 p1.Cells.length c1]⟩, ⟨B3, (p1.Cells.flatMap enc_Dyadic)⟩] := hS29
    refine sq 13 rfl rfl (Y_assign (v := .bool r_7) rfl rfl) ?_
    refine rw_nil ?_
    refine cw_seq ?_
    refine cw_seq ?_
    refine cw_region ?_
    refine sq 38 rfl rfl (Y_move (v := .bool r_5) rfl (hf1.get 11 7 rfl)) ?_
    refine sq 39 rfl rfl (Y_not (p := r_5) rfl rfl) ?_
    refine sq 40 rfl rfl (Y_move (v := .bool (!r_5)) rfl rfl) ?_
    refine sgq 41 (B := (!(!r_5))) (v := .bool r_7) rfl rfl (wt_f (gd_of (t := 40) (by kernel_rfl) rfl)) (fun hg => (Y_move (v := .bool r_7) rfl rfl)) ?_
    refine sgq 42 (B := (!(!r_5))) (v := .bool (!r_7)) rfl rfl (wt_f (gd_of (t := 40) (by kernel_rfl) rfl)) (fun hg1 => (Y_not (p := r_7) rfl (gv_of (B := (!(!r_5))) (v := .bool r_7) hg1))) ?_
    refine sq 43 rfl rfl (Y_or (b := (!r_5)) (z := (!r_7)) rfl rfl rfl rfl) ?_
    refine rw_nil ?_
    refine cw_cond (b := ((!r_5) || (!r_7))) rfl (fun hb1 => ?_) (fun hb1 => ?_)
    · skip
      have hF2 := ct hb hb1
      refine cw_seq ?_
      refine cw_region ?_
      refine sq 44 rfl rfl (Y_buildS (zs := [.int .i64 0, .int .i64 0, .int .i64 0, .int .i64 0, .int .i64 0]) (vs := []) (cs := [.int .i64 0, .int .i64 0, .int .i64 0, .int .i64 0, .int .i64 0]) k_pl_91 k_zero_91 rfl mpn rfl) ?_
      refine ss0 rfl rfl (Ys_store (i := 0) (s := 5) (B := some ⟨b, 0, none⟩) (T' := 91) (v := .agg #[.int .i64 0, .int .i64 0, .int .i64 0, .int .i64 0, .int .i64 0]) (vs := [.int .i64 0, .int .i64 0, .int .i64 0, .int .i64 0, .int .i64 0]) (k := 0) (cs' := [.int .i64 0, .int .i64 0, .int .i64 0, .int .i64 0, .int .i64 0]) hS29 k_sz_91_5 rfl (hf1.get 6 4 rfl) rfl rfl rfl rfl rfl (Nat.le_of_ble_eq_true rfl) rfl rfl) ?_
      rintro _ w_23 ⟨rfl, hS30⟩
      have hS30 : ST w0 [] _ [⟨some ⟨b, 0, none⟩, 91, [.int .i64 0, .int .i64 0, .int .i64 0, .int .i64 0, .int .i64 0], 5⟩, ⟨some ⟨b1, 0, none⟩, 91, [.int .i64 A, .int .i64 B4, .int .i64 C, .int .i64 D, .int .i64 Exp], 5⟩, ⟨B5, 91, [.int .i64 r_4.Num.A, .int .i64 r_4.Num.B, .int .i64 r_4.Num.C, .int .i64 r_4.Num.D, .int .i64 r_4.Exp], 5⟩, ⟨some ⟨b3, 0, none⟩, 91, [.int .i64 r_6.Num.A, .int .i64 r_6.Num.B, .int .i64 r_6.Num.C, .int .i64 r_6.Num.D, .int .i64 r_6.Exp], 5⟩] [⟨B, [.int .i64 p.Rows, .int .i64 p.Cols, .slice B1 p.Cells.length c]⟩, ⟨B1, (p.Cells.flatMap enc_Dyadic)⟩, ⟨B2, [.int .i64 p1.Rows, .int .i64 p1.Cols, .slice B3 p1.Cells.length c1]⟩, ⟨B3, (p1.Cells.flatMap enc_Dyadic)⟩] := hS30
      refine sq 7 rfl rfl (Y_assign (v := .bool false) rfl rfl) ?_
      refine rw_nil ?_
      refine cw_ret ?_
      obtain rfl := some_inj hF2
      obtain rfl := some_inj hL1
      obtain ⟨rfl, rfl⟩ := pr2 (some_inj hF1)
      exact ret2 Try.results159 (v1 := .agg #[.int .i64 0, .int .i64 0, .int .i64 0, .int .i64 0, .int .i64 0]) (resAt_cellA (B := some ⟨b, 0, none⟩) (i := 0) (cs := [.int .i64 0, .int .i64 0, .int .i64 0, .int .i64 0, .int .i64 0]) (vs := [.int .i64 0, .int .i64 0, .int .i64 0, .int .i64 0, .int .i64 0]) (hf1.get 6 4 rfl) k_ag_91 k_sz_91_5 (hS30.cf (i := 0) rfl) rfl rfl) (v2 := .bool false) (resAt_tmp rfl) ⟨rfl, (ST.subR (R' := []) (hS30.sel [] rfl rfl) (fun _ h => by cases h))⟩
    · skip
      have hF3 := cf' hb hb1
      refine cw_skip ?_
      refine cw_region ?_
      refine sq 45 rfl rfl (Y_loadA (B := some ⟨b3, 0, none⟩) (i := 0) (cs := [.int .i64 r_6.Num.A, .int .i64 r_6.Num.B, .int .i64 r_6.Num.C, .int .i64 r_6.Num.D, .int .i64 r_6.Exp]) (vs := [.int .i64 r_6.Num.A, .int .i64 r_6.Num.B, .int .i64 r_6.Num.C, .int .i64 r_6.Num.D, .int .i64 r_6.Exp]) k_ag_91 k_sz_91_5 rfl rfl (hS29.cf (i := 3) rfl) rfl rfl) ?_
      refine ss0 rfl rfl (Ys_store (i := 1) (s := 5) (B := some ⟨b1, 0, none⟩) (T' := 91) (v := .agg #[.int .i64 r_6.Num.A, .int .i64 r_6.Num.B, .int .i64 r_6.Num.C, .int .i64 r_6.Num.D, .int .i64 r_6.Exp]) (vs := [.int .i64 r_6.Num.A, .int .i64 r_6.Num.B, .int .i64 r_6.Num.C, .int .i64 r_6.Num.D, .int .i64 r_6.Exp]) (k := 0) (cs' := [.int .i64 r_6.Num.A, .int .i64 r_6.Num.B, .int .i64 r_6.Num.C, .int .i64 r_6.Num.D, .int .i64 r_6.Exp]) hS29 k_sz_91_5 rfl (hf1.get 8 5 rfl) rfl rfl rfl rfl rfl (Nat.le_of_ble_eq_true rfl) rfl rfl) ?_
      rintro _ w_24 ⟨rfl, hS31⟩
      have hS31 : ST w0 [] _ [⟨some ⟨b, 0, none⟩, 91, [.int .i64 0, .int .i64 0, .int .i64 0, .int .i64 0, .int .i64 0], 5⟩, ⟨some ⟨b1, 0, none⟩, 91, [.int .i64 r_6.Num.A, .int .i64 r_6.Num.B, .int .i64 r_6.Num.C, .int .i64 r_6.Num.D, .int .i64 r_6.Exp], 5⟩, ⟨B5, 91, [.int .i64 r_4.Num.A, .int .i64 r_4.Num.B, .int .i64 r_4.Num.C, .int .i64 r_4.Num.D, .int .i64 r_4.Exp], 5⟩, ⟨some ⟨b3, 0, none⟩, 91, [.int .i64 r_6.Num.A, .int .i64 r_6.Num.B, .int .i64 r_6.Num.C, .int .i64 r_6.Num.D, .int .i64 r_6.Exp], 5⟩] [⟨B, [.int .i64 p.Rows, .int .i64 p.Cols, .slice B1 p.Cells.length c]⟩, ⟨B1, (p.Cells.flatMap enc_Dyadic)⟩, ⟨B2, [.int .i64 p1.Rows, .int .i64 p1.Cols, .slice B3 p1.Cells.length c1]⟩, ⟨B3, (p1.Cells.flatMap enc_Dyadic)⟩] := hS31
      refine rw_nil ?_
      refine cw_region ?_
      refine sq 46 rfl rfl (Y_add (k := .i64) (a := (i1 : Int)) (b := 1) rfl (hf1.get 17 9 rfl) rfl) ?_
      refine sq 17 rfl rfl (Y_move (v := .int .i64 (IntKind.i64.wrap ((i1 : Int) + 1))) rfl rfl) ?_
      refine rw_nil ?_
      obtain rfl := some_inj hF3
      exact ⟨k_1, Nat.lt_succ_self _, i1 + 1, r_6.Num.A, r_6.Num.B, r_6.Num.C, r_6.Num.D, r_6.Exp, (FF.cons (hf1.get 0 0 rfl) (FF.cons (hf1.get 1 1 rfl) (FF.cons (hf1.get 2 2 rfl) (FF.cons (hf1.get 3 3 rfl) (FF.cons (hf1.get 6 4 rfl) (FF.cons (hf1.get 8 5 rfl) (FF.cons (hf1.get 16 8 rfl) (FF.cons (congrArg (Value.int .i64) (wr_succ hlt1 hN)) FF.nil)))))))), (hS31.sel [0, 1] rfl rfl), (by omega), hL1⟩
  · skip
    obtain rfl : k_ = 0 := by have h := of_decide_eq_false hlt; omega
    refine cw_exit rfl ?_
    obtain rfl := some_inj hL
    refine cw_seq ?_
    refine cw_region ?_
    refine sq 47 rfl rfl (Y_loadA (B := some ⟨b1, 0, none⟩) (i := 0) (cs := [.int .i64 A, .int .i64 B4, .int .i64 C, .int .i64 D, .int .i64 Exp]) (vs := [.int .i64 A, .int .i64 B4, .int .i64 C, .int .i64 D, .int .i64 Exp]) k_ag_91 k_sz_91_5 rfl (hf.get 8 5 rfl) (hS4.cf (i := 1) rfl) rfl rfl) ?_
    refine ss0 rfl rfl (Ys_store (i := 0) (s := 5) (B := some ⟨b, 0, none⟩) (T' := 91) (v := .agg #[.int .i64 A, .int .i64 B4, .int .i64 C, .int .i64 D, .int .i64 Exp]) (vs := [.int .i64 A, .int .i64 B4, .int .i64 C, .int .i64 D, .int .i64 Exp]) (k := 0) (cs' := [.int .i64 A, .int .i64 B4, .int .i64 C, .int .i64 D, .int .i64 Exp]) hS4 k_sz_91_5 rfl (hf.get 6 4 rfl) rfl rfl rfl rfl rfl (Nat.le_of_ble_eq_true rfl) rfl rfl) ?_
    rintro _ w_25 ⟨rfl, hS32⟩
    have hS32 : ST w0 [] _ [⟨some ⟨b, 0, none⟩, 91, [.int .i64 A, .int .i64 B4, .int .i64 C, .int .i64 D, .int .i64 Exp], 5⟩, ⟨some ⟨b1, 0, none⟩, 91, [.int .i64 A, .int .i64 B4, .int .i64 C, .int .i64 D, .int .i64 Exp], 5⟩] [⟨B, [.int .i64 p.Rows, .int .i64 p.Cols, .slice B1 p.Cells.length c]⟩, ⟨B1, (p.Cells.flatMap enc_Dyadic)⟩, ⟨B2, [.int .i64 p1.Rows, .int .i64 p1.Cols, .slice B3 p1.Cells.length c1]⟩, ⟨B3, (p1.Cells.flatMap enc_Dyadic)⟩] := hS32
    refine sq 7 rfl rfl (Y_assign (v := .bool true) rfl rfl) ?_
    refine rw_nil ?_
    refine cw_ret ?_
    obtain ⟨rfl, rfl⟩ := pr2 (some_inj hF1)
    exact ret2 Try.results159 (v1 := .agg #[.int .i64 A, .int .i64 B4, .int .i64 C, .int .i64 D, .int .i64 Exp]) (resAt_cellA (B := some ⟨b, 0, none⟩) (i := 0) (cs := [.int .i64 A, .int .i64 B4, .int .i64 C, .int .i64 D, .int .i64 Exp]) (vs := [.int .i64 A, .int .i64 B4, .int .i64 C, .int .i64 D, .int .i64 Exp]) (hf.get 6 4 rfl) k_ag_91 k_sz_91_5 (hS32.cf (i := 0) rfl) rfl rfl) (v2 := .bool true) (resAt_tmp rfl) ⟨rfl, (ST.subR (R' := []) (hS32.sel [] rfl rfl) (fun _ h => by cases h))⟩

theorem c_impl_MulMatrix (a : TMatrix) (b : TMatrix) (B : Option Addr) (c n : Nat) (B1 : Option Addr) (c1 n1 : Nat) (w0 : World) (hn : a.Cells.length = n) (hn1 : b.Cells.length = n1) (hS : ST w0 [] w0 [] [⟨B, (a.Cells.flatMap enc_Dyadic)⟩, ⟨B1, (b.Cells.flatMap enc_Dyadic)⟩]) {r_ : TMatrix} {r_1 : Bool} (hF : F_impl_MulMatrix a b = some (r_, r_1)) :
    CV Try.prog 101 #[.agg #[.int .i64 a.Rows, .int .i64 a.Cols, .slice B n c], .agg #[.int .i64 b.Rows, .int .i64 b.Cols, .slice B1 n1 c1]] w0 (fun v w' => ∃ (B2 : Option Addr) (c2 : Nat), v = .tuple #[.agg #[.int .i64 r_.Rows, .int .i64 r_.Cols, .slice B2 r_.Cells.length c2], .bool r_1] ∧ ST w0 [] w' [⟨B2, 91, (r_.Cells.flatMap enc_Dyadic), c2 * 5⟩] []) := by
  subst hn
  subst hn1
  unfold F_impl_MulMatrix at hF
  refine cv_of_cw 30 Try.func101 rfl Try.ntmps101 rfl ?_
  refine cw_seq ?_
  refine cw_region ?_
  refine ss 2 rfl rfl (Ys_box (T := 62) (v := .agg #[.int .i64 a.Rows, .int .i64 a.Cols, .slice B a.Cells.length c]) (cs := [.int .i64 a.Rows, .int .i64 a.Cols, .slice B a.Cells.length c]) (m := 3) hS rfl rfl rfl rfl) ?_
  rintro _ w_ ⟨b1, rfl, hS1⟩
  refine ss 3 rfl rfl (Ys_box (T := 62) (v := .agg #[.int .i64 b.Rows, .int .i64 b.Cols, .slice B1 b.Cells.length c1]) (cs := [.int .i64 b.Rows, .int .i64 b.Cols, .slice B1 b.Cells.length c1]) (m := 3) hS1 rfl rfl rfl rfl) ?_
  rintro _ w_1 ⟨b2, rfl, hS2⟩
  have hS2 : ST w0 [] _ [⟨some ⟨b1, 0, none⟩, 62, [.int .i64 a.Rows, .int .i64 a.Cols, .slice B a.Cells.length c], 3⟩, ⟨some ⟨b2, 0, none⟩, 62, [.int .i64 b.Rows, .int .i64 b.Cols, .slice B1 b.Cells.length c1], 3⟩] [⟨B, (a.Cells.flatMap enc_Dyadic)⟩, ⟨B1, (b.Cells.flatMap enc_Dyadic)⟩] := hS2
  refine ss 4 rfl rfl (Ys_alloc (T := 62) (cs := [.int .i64 0, .int .i64 0, .slice none 0 0]) (m := 3) hS2 k_zero_62 rfl rfl rfl) ?_
  rintro _ w_2 ⟨b3, rfl, hS3⟩
  have hS3 : ST w0 [] _ [⟨some ⟨b1, 0, none⟩, 62, [.int .i64 a.Rows, .int .i64 a.Cols, .slice B a.Cells.length c], 3⟩, ⟨some ⟨b2, 0, none⟩, 62, [.int .i64 b.Rows, .int .i64 b.Cols, .slice B1 b.Cells.length c1], 3⟩, ⟨some ⟨b3, 0, none⟩, 62, [.int .i64 0, .int .i64 0, .slice none 0 0], 3⟩] [⟨B, (a.Cells.flatMap enc_Dyadic)⟩, ⟨B1, (b.Cells.flatMap enc_Dyadic)⟩] := hS3
  refine sq 5 rfl rfl (Y_assign (v := .bool false) rfl rfl) ?_
  refine rw_nil ?_
  refine cw_seq ?_
  refine cw_seq ?_
  refine cw_region ?_
  refine sq 6 rfl rfl (Y_loadA (B := some ⟨b1, 0, none⟩) (i := 0) (cs := [.int .i64 a.Rows, .int .i64 a.Cols, .slice B a.Cells.length c]) (vs := [.int .i64 a.Rows, .int .i64 a.Cols, .slice B a.Cells.length c]) k_ag_62 k_sz_62_3 rfl rfl (hS3.cf (i := 0) rfl) rfl rfl) ?_
  obtain ⟨r_2, hc, hF⟩ := bind_inv hF
  refine sc 7 rfl rfl (Yc_func (g := 99) (vs := [.agg #[.int .i64 a.Rows, .int .i64 a.Cols, .slice B a.Cells.length c]]) k_call_99 rfl (mc rfl mn) (c_impl_IsValidMatrix a B c a.Cells.length _ rfl (hS3.inn0 [(true, 0)] rfl) hc)) ?_
  rintro _ w_3 ⟨rfl, hd⟩
  have hS4 := hS3.out00 hd
  have hS4 : ST w0 [] _ [⟨some ⟨b1, 0, none⟩, 62, [.int .i64 a.Rows, .int .i64 a.Cols, .slice B a.Cells.length c], 3⟩, ⟨some ⟨b2, 0, none⟩, 62, [.int .i64 b.Rows, .int .i64 b.Cols, .slice B1 b.Cells.length c1], 3⟩, ⟨some ⟨b3, 0, none⟩, 62, [.int .i64 0, .int .i64 0, .slice none 0 0], 3⟩] [⟨B, (a.Cells.flatMap enc_Dyadic)⟩, ⟨B1, (b.Cells.flatMap enc_Dyadic)⟩] := hS4
  refine sq 8 rfl rfl (Y_not (p := r_2) rfl rfl) ?_
  refine sq 9 rfl rfl (Y_move (v := .bool (!r_2)) rfl rfl) ?_
  refine sgq 10 (B := (!(!r_2))) (v := .agg #[.int .i64 b.Rows, .int .i64 b.Cols, .slice B1 b.Cells.length c1]) rfl rfl (wt_f (gd_of (t := 9) (by kernel_rfl) rfl)) (fun hg => (Y_loadA (B := some ⟨b2, 0, none⟩) (i := 0) (cs := [.int .i64 b.Rows, .int .i64 b.Cols, .slice B1 b.Cells.length c1]) (vs := [.int .i64 b.Rows, .int .i64 b.Cols, .slice B1 b.Cells.length c1]) k_ag_62 k_sz_62_3 rfl rfl (hS4.cf (i := 1) rfl) rfl rfl)) ?_
  obtain ⟨r_3, hc1, hF⟩ := bind_inv hF
  refine sgc 11 (B := (!(!r_2))) (v := .bool r_3) (F := hS4.fn) rfl rfl (wt_f (gd_of (t := 9) (by kernel_rfl) rfl)) hS4 (fun hg1 => (Yc_func (g := 99) (vs := [.agg #[.int .i64 b.Rows, .int .i64 b.Cols, .slice B1 b.Cells.length c1]]) k_call_99 rfl (mc (gv_of (B := (!(!r_2))) (v := .agg #[.int .i64 b.Rows, .int .i64 b.Cols, .slice B1 b.Cells.length c1]) hg1) mn) (CV.mono (c_impl_IsValidMatrix b B1 c1 b.Cells.length _ rfl (hS4.inn0 [(true, 1)] rfl) (gb_inv hc1 hg1)) (by rintro _ _ ⟨rfl, h⟩; exact ⟨rfl, hS4.out00 h⟩)))) ?_
  rintro w_4 hS5
  have hS5 : ST _ _ w_4 _ _ := hS5
  refine sgq 12 (B := (!(!r_2))) (v := .bool (!r_3)) rfl rfl (wt_f (gd_of (t := 9) (by kernel_rfl) rfl)) (fun hg2 => (Y_not (p := r_3) rfl (gv_of (B := (!(!r_2))) (v := .bool r_3) hg2))) ?_
  refine sq 13 rfl rfl (Y_or (b := (!r_2)) (z := (!r_3)) rfl rfl rfl rfl) ?_
  refine sq 14 rfl rfl (Y_move (v := .bool ((!r_2) || (!r_3))) rfl rfl) ?_
  refine sgq 15 (B := (!((!r_2) || (!r_3)))) (v := pt (some ⟨b1, 0, none⟩) 1) rfl rfl (wt_f (gd_of (t := 14) (by kernel_rfl) rfl)) (fun hg3 => (Y_fieldAddr (B := some ⟨b1, 0, none⟩) (i := 0) (s := 0) k_fd_62_1_1_3 k_sz_3_1 rfl rfl)) ?_
  refine sgq 16 (B := (!((!r_2) || (!r_3)))) (v := .int .i64 a.Cols) rfl rfl (wt_f (gd_of (t := 14) (by kernel_rfl) rfl)) (fun hg4 => (Y_load1 (B := some ⟨b1, 0, none⟩) (i := 1) (cs := [.int .i64 a.Rows, .int .i64 a.Cols, .slice B a.Cells.length c]) (v := .int .i64 a.Cols) k_sc_3 rfl (gv_of (B := (!((!r_2) || (!r_3)))) (v := pt (some ⟨b1, 0, none⟩) 1) hg4) (hS5.cf (i := 0) rfl) rfl)) ?_
  refine sgq 17 (B := (!((!r_2) || (!r_3)))) (v := pt (some ⟨b2, 0, none⟩) 0) rfl rfl (wt_f (gd_of (t := 14) (by kernel_rfl) rfl)) (fun hg5 => (Y_fieldAddr (B := some ⟨b2, 0, none⟩) (i := 0) (s := 0) k_fd_62_0_0_3 k_sz_3_1 rfl rfl)) ?_
  refine sgq 18 (B := (!((!r_2) || (!r_3)))) (v := .int .i64 b.Rows) rfl rfl (wt_f (gd_of (t := 14) (by kernel_rfl) rfl)) (fun hg6 => (Y_load1 (B := some ⟨b2, 0, none⟩) (i := 0) (cs := [.int .i64 b.Rows, .int .i64 b.Cols, .slice B1 b.Cells.length c1]) (v := .int .i64 b.Rows) k_sc_3 rfl (gv_of (B := (!((!r_2) || (!r_3)))) (v := pt (some ⟨b2, 0, none⟩) 0) hg6) (hS5.cf (i := 1) rfl) rfl)) ?_
  refine sgq 19 (B := (!((!r_2) || (!r_3)))) (v := .bool (a.Cols != b.Rows)) rfl rfl (wt_f (gd_of (t := 14) (by kernel_rfl) rfl)) (fun hg7 => (Y_ne (k := .i64) (a := a.Cols) (b := b.Rows) rfl (gv_of (B := (!((!r_2) || (!r_3)))) (v := .int .i64 a.Cols) hg7) (gv_of (B := (!((!r_2) || (!r_3)))) (v := .int .i64 b.Rows) hg7))) ?_
  refine sq 20 rfl rfl (Y_or (b := ((!r_2) || (!r_3))) (z := (a.Cols != b.Rows)) rfl rfl rfl rfl) ?_
  refine rw_nil ?_
  refine cw_cond (b := (((!r_2) || (!r_3)) || (a.Cols != b.Rows))) rfl (fun hb => ?_) (fun hb => ?_)
  · skip
    have hF1 := ct hF hb
    refine cw_seq ?_
    refine cw_region ?_
    refine sq 21 rfl rfl (Y_buildS (zs := [.int .i64 0, .int .i64 0, .slice none 0 0]) (vs := []) (cs := [.int .i64 0, .int .i64 0, .slice none 0 0]) k_pl_62 k_zero_62 rfl mpn rfl) ?_
    refine ss0 rfl rfl (Ys_store (i := 2) (s := 3) (B := some ⟨b3, 0, none⟩) (T' := 62) (v := .agg #[.int .i64 0, .int .i64 0, .slice none 0 0]) (vs := [.int .i64 0, .int .i64 0, .slice none 0 0]) (k := 0) (cs' := [.int .i64 0, .int .i64 0, .slice none 0 0]) hS5 k_sz_62_3 rfl rfl rfl rfl rfl rfl rfl (Nat.le_of_ble_eq_true rfl) rfl rfl) ?_
    rintro _ w_5 ⟨rfl, hS6⟩
    have hS6 : ST w0 [] _ [⟨some ⟨b1, 0, none⟩, 62, [.int .i64 a.Rows, .int .i64 a.Cols, .slice B a.Cells.length c], 3⟩, ⟨some ⟨b2, 0, none⟩, 62, [.int .i64 b.Rows, .int .i64 b.Cols, .slice B1 b.Cells.length c1], 3⟩, ⟨some ⟨b3, 0, none⟩, 62, [.int .i64 0, .int .i64 0, .slice none 0 0], 3⟩] [⟨B, (a.Cells.flatMap enc_Dyadic)⟩, ⟨B1, (b.Cells.flatMap enc_Dyadic)⟩] := hS6
    refine sq 5 rfl rfl (Y_assign (v := .bool false) rfl rfl) ?_
    refine rw_nil ?_
    refine cw_ret ?_
    have hS7 := hS6.addNil 91
    obtain ⟨rfl, rfl⟩ := pr2 (some_inj hF1)
    exact ret2 Try.results101 (v1 := .agg #[.int .i64 0, .int .i64 0, .slice none 0 0]) (resAt_cellA (B := some ⟨b3, 0, none⟩) (i := 0) (cs := [.int .i64 0, .int .i64 0, .slice none 0 0]) (vs := [.int .i64 0, .int .i64 0, .slice none 0 0]) rfl k_ag_62 k_sz_62_3 (hS7.cf (i := 2) rfl) rfl rfl) (v2 := .bool false) (resAt_tmp rfl) ⟨none, 0, rfl, (ST.subR (R' := []) (hS7.sel [3] rfl rfl) (fun _ h => by cases h))⟩
  · skip
    have hF2 := cf' hF hb
    refine cw_skip ?_
    refine cw_seq ?_
    refine cw_region ?_
    refine sq 22 rfl rfl (Y_fieldAddr (B := some ⟨b1, 0, none⟩) (i := 0) (s := 0) k_fd_62_0_0_3 k_sz_3_1 rfl rfl) ?_
    refine sq 23 rfl rfl (Y_load1 (B := some ⟨b1, 0, none⟩) (i := 0) (cs := [.int .i64 a.Rows, .int .i64 a.Cols, .slice B a.Cells.length c]) (v := .int .i64 a.Rows) k_sc_3 rfl rfl (hS5.cf (i := 0) rfl) rfl) ?_
    refine sq 24 rfl rfl (Y_fieldAddr (B := some ⟨b2, 0, none⟩) (i := 0) (s := 0) k_fd_62_1_1_3 k_sz_3_1 rfl rfl) ?_
    refine sq 25 rfl rfl (Y_load1 (B := some ⟨b2, 0, none⟩) (i := 1) (cs := [.int .i64 b.Rows, .int .i64 b.Cols, .slice B1 b.Cells.length c1]) (v := .int .i64 b.Cols) k_sc_3 rfl rfl (hS5.cf (i := 1) rfl) rfl) ?_
    refine sq 26 rfl rfl (Y_makeFunc (cs := [pt (some ⟨b1, 0, none⟩) 0, pt (some ⟨b2, 0, none⟩) 0]) rfl rfl (mc rfl (mc rfl mn))) ?_
    obtain ⟨⟨r_4, r_5⟩, hc2, hF2⟩ := bind_inv hF2
    refine sc 27 rfl rfl (Yc_func (g := 109) (vs := [.int .i64 a.Rows, .int .i64 b.Cols, .func (.func 159) #[] #[pt (some ⟨b1, 0, none⟩) 0, pt (some ⟨b2, 0, none⟩) 0]]) k_call_109 rfl (mc rfl (mc rfl (mc rfl mn))) (c_impl_matrixOf a.Rows b.Cols (fun x_0 x_1 => F_impl_MulMatrix_1 x_0 x_1 a b) 159 (#[pt (some ⟨b1, 0, none⟩) 0, pt (some ⟨b2, 0, none⟩) 0]) [⟨some ⟨b1, 0, none⟩, [.int .i64 a.Rows, .int .i64 a.Cols, .slice B a.Cells.length c]⟩, ⟨B, (a.Cells.flatMap enc_Dyadic)⟩, ⟨some ⟨b2, 0, none⟩, [.int .i64 b.Rows, .int .i64 b.Cols, .slice B1 b.Cells.length c1]⟩, ⟨B1, (b.Cells.flatMap enc_Dyadic)⟩] _ k_call_159 (fun w hw x_0 x_1 y_0 y_1 h_ => c_impl_MulMatrix_1 x_0 x_1 a b (some ⟨b1, 0, none⟩) B c a.Cells.length (some ⟨b2, 0, none⟩) B1 c1 b.Cells.length w rfl rfl hw h_) (hS5.inn0 [(false, 0), (true, 0), (false, 1), (true, 1)] rfl) hc2)) ?_
    rintro _ w_6 ⟨B3, c3, rfl, hd1⟩
    have hS8 := hS5.out0 hd1
    have hS8 : ST w0 [] _ [⟨some ⟨b1, 0, none⟩, 62, [.int .i64 a.Rows, .int .i64 a.Cols, .slice B a.Cells.length c], 3⟩, ⟨some ⟨b2, 0, none⟩, 62, [.int .i64 b.Rows, .int .i64 b.Cols, .slice B1 b.Cells.length c1], 3⟩, ⟨some ⟨b3, 0, none⟩, 62, [.int .i64 0, .int .i64 0, .slice none 0 0], 3⟩, ⟨B3, 91, (r_4.Cells.flatMap enc_Dyadic), c3 * 5⟩] [⟨B, (a.Cells.flatMap enc_Dyadic)⟩, ⟨B1, (b.Cells.flatMap enc_Dyadic)⟩] := hS8
    refine sq 28 rfl rfl (Y_extract (v := .agg #[.int .i64 r_4.Rows, .int .i64 r_4.Cols, .slice B3 r_4.Cells.length c3]) rfl rfl rfl) ?_
    refine sq 29 rfl rfl (Y_extract (v := .bool r_5) rfl rfl rfl) ?_
    refine ss0 rfl rfl (Ys_store (i := 2) (s := 3) (B := some ⟨b3, 0, none⟩) (T' := 62) (v := .agg #[.int .i64 r_4.Rows, .int .i64 r_4.Cols, .slice B3 r_4.Cells.length c3]) (vs := [.int .i64 r_4.Rows, .int .i64 r_4.Cols, .slice B3 r_4.Cells.length c3]) (k := 0) (cs' := [.int .i64 r_4.Rows, .int .i64 r_4.Cols, .slice B3 r_4.Cells.length c3]) hS8 k_sz_62_3 rfl rfl rfl rfl rfl rfl rfl (Nat.le_of_ble_eq_true rfl) rfl rfl) ?_
    rintro _ w_7 ⟨rfl, hS9⟩
    have hS9 : ST w0 [] _ [⟨some ⟨b1, 0, none⟩, 62, [.int .i64 a.Rows, .int .i64 a.Cols, .slice B a.Cells.length c], 3⟩, ⟨some ⟨b2, 0, none⟩, 62, [.int .i64 b.Rows, .int .i64 b.Cols, .slice B1 b.Cells.length c1], 3⟩, ⟨some ⟨b3, 0, none⟩, 62, [.int .i64 r_4.Rows, .int .i64 r_4.Cols, .slice B3 r_4.Cells.length c3], 3⟩, ⟨B3, 91, (r_4.Cells.flatMap enc_Dyadic), c3 * 5⟩] [⟨B, (a.Cells.flatMap enc_Dyadic)⟩, ⟨B1, (b.Cells.flatMap enc_Dyadic)⟩] := hS9
    refine sq 5 rfl rfl (Y_assign (v := .bool r_5) rfl rfl) ?_
    refine rw_nil ?_
    refine cw_ret ?_
    obtain ⟨rfl, rfl⟩ := pr2 (some_inj hF2)
    exact ret2 Try.results101 (v1 := .agg #[.int .i64 r_4.Rows, .int .i64 r_4.Cols, .slice B3 r_4.Cells.length c3]) (resAt_cellA (B := some ⟨b3, 0, none⟩) (i := 0) (cs := [.int .i64 r_4.Rows, .int .i64 r_4.Cols, .slice B3 r_4.Cells.length c3]) (vs := [.int .i64 r_4.Rows, .int .i64 r_4.Cols, .slice B3 r_4.Cells.length c3]) rfl k_ag_62 k_sz_62_3 (hS9.cf (i := 2) rfl) rfl rfl) (v2 := .bool r_5) (resAt_tmp rfl) ⟨B3, c3, rfl, (ST.subR (R' := []) (hS9.sel [3] rfl rfl) (fun _ h => by cases h))⟩

theorem c_impl_whole (n : Int)  (w0 : World)  (hS : ST w0 [] w0 [] []) {r_ : TDyadic} (hF : F_impl_whole n = some r_) :
    CV Try.prog 67 #[.int .i64 n] w0 (fun v w' => v = .agg #[.int .i64 r_.Num.A, .int .i64 r_.Num.B, .int .i64 r_.Num.C, .int .i64 r_.Num.D, .int .i64 r_.Exp] ∧ ST w0 [] w' [] []) := by
  unfold F_impl_whole at hF
  refine cv_of_cw 6 Try.func67 rfl Try.ntmps67 rfl ?_
  refine cw_seq ?_
  refine cw_region ?_
  refine ss 2 rfl rfl (Ys_alloc (T := 91) (cs := [.int .i64 0, .int .i64 0, .int .i64 0, .int .i64 0, .int .i64 0]) (m := 5) hS k_zero_91 rfl rfl rfl) ?_
  rintro _ w_ ⟨b, rfl, hS1⟩
  refine rw_nil ?_
  refine cw_seq ?_
  refine cw_region ?_
  refine sq 3 rfl rfl (Y_move (v := .int .i64 n) rfl rfl) ?_
  refine sq 4 rfl rfl (Y_buildS (zs := [.int .i64 0, .int .i64 0, .int .i64 0, .int .i64 0]) (vs := [(0, .int .i64 n)]) (cs := [.int .i64 n, .int .i64 0, .int .i64 0, .int .i64 0]) k_pl_89 k_zero_89 rfl (mpc rfl mpn) rfl) ?_
  refine sq 5 rfl rfl (Y_buildS (zs := [.int .i64 0, .int .i64 0, .int .i64 0, .int .i64 0, .int .i64 0]) (vs := [(0, .agg #[.int .i64 n, .int .i64 0, .int .i64 0, .int .i64 0])]) (cs := [.int .i64 n, .int .i64 0, .int .i64 0, .int .i64 0, .int .i64 0]) k_pl_91 k_zero_91 rfl (mpc rfl mpn) rfl) ?_
  refine ss0 rfl rfl (Ys_store (i := 0) (s := 5) (B := some ⟨b, 0, none⟩) (T' := 91) (v := .agg #[.int .i64 n, .int .i64 0, .int .i64 0, .int .i64 0, .int .i64 0]) (vs := [.int .i64 n, .int .i64 0, .int .i64 0, .int .i64 0, .int .i64 0]) (k := 0) (cs' := [.int .i64 n, .int .i64 0, .int .i64 0, .int .i64 0, .int .i64 0]) hS1 k_sz_91_5 rfl rfl rfl rfl rfl rfl rfl (Nat.le_of_ble_eq_true rfl) rfl rfl) ?_
  rintro _ w_1 ⟨rfl, hS2⟩
  refine rw_nil ?_
  refine cw_ret ?_
  obtain rfl := some_inj hF
  exact ret1 Try.results67 (v1 := .agg #[.int .i64 n, .int .i64 0, .int .i64 0, .int .i64 0, .int .i64 0]) (resAt_cellA (B := some ⟨b, 0, none⟩) (i := 0) (cs := [.int .i64 n, .int .i64 0, .int .i64 0, .int .i64 0, .int .i64 0]) (vs := [.int .i64 n, .int .i64 0, .int .i64 0, .int .i64 0, .int .i64 0]) rfl k_ag_91 k_sz_91_5 (hS2.cf (i := 0) rfl) rfl rfl) ⟨rfl, (ST.subR (R' := []) (hS2.sel [] rfl rfl) (fun _ h => by cases h))⟩

theorem c_impl_IdentityMatrix_1 (i : Int) (j : Int)  (w0 : World)  (hS : ST w0 [] w0 [] []) {r_ : TDyadic} {r_1 : Bool} (hF : F_impl_IdentityMatrix_1 i j = some (r_, r_1)) :
    CV Try.prog 160 #[.int .i64 i, .int .i64 j] w0 (fun v w' => v = .tuple #[.agg #[.int .i64 r_.Num.A, .int .i64 r_.Num.B, .int .i64 r_.Num.C, .int .i64 r_.Num.D, .int .i64 r_.Exp], .bool r_1] ∧ ST w0 [] w' [] []) := by
  unfold F_impl_IdentityMatrix_1 at hF
  refine cv_of_cw 11 Try.func160 rfl Try.ntmps160 rfl ?_
  refine cw_seq ?_
  refine cw_region ?_
  refine ss 4 rfl rfl (Ys_alloc (T := 91) (cs := [.int .i64 0, .int .i64 0, .int .i64 0, .int .i64 0, .int .i64 0]) (m := 5) hS k_zero_91 rfl rfl rfl) ?_
  rintro _ w_ ⟨b, rfl, hS1⟩
  refine sq 5 rfl rfl (Y_assign (v := .bool false) rfl rfl) ?_
  refine rw_nil ?_
  refine cw_seq ?_
  refine cw_seq ?_
  refine cw_region ?_
  refine sq 6 rfl rfl (Y_move (v := .int .i64 i) rfl rfl) ?_
  refine sq 7 rfl rfl (Y_move (v := .int .i64 j) rfl rfl) ?_
  refine sq 8 rfl rfl (Y_eq (k := .i64) (a := i) (b := j) rfl rfl rfl) ?_
  refine rw_nil ?_
  refine cw_cond (b := (i == j)) rfl (fun hb => ?_) (fun hb => ?_)
  · skip
    have hF1 := ct hF hb
    refine cw_seq ?_
    refine cw_region ?_
    obtain ⟨r_2, hc, hF1⟩ := bind_inv hF1
    refine sc 9 rfl rfl (Yc_func (g := 67) (vs := [.int .i64 1]) k_call_67 rfl (mc rfl mn) (c_impl_whole 1 _  (hS1.inn0 [] rfl) hc)) ?_
    rintro _ w_1 ⟨rfl, hd⟩
    have hS2 := hS1.out00 hd
    refine ss0 rfl rfl (Ys_store (i := 0) (s := 5) (B := some ⟨b, 0, none⟩) (T' := 91) (v := .agg #[.int .i64 r_2.Num.A, .int .i64 r_2.Num.B, .int .i64 r_2.Num.C, .int .i64 r_2.Num.D, .int .i64 r_2.Exp]) (vs := [.int .i64 r_2.Num.A, .int .i64 r_2.Num.B, .int .i64 r_2.Num.C, .int .i64 r_2.Num.D, .int .i64 r_2.Exp]) (k := 0) (cs' := [.int .i64 r_2.Num.A, .int .i64 r_2.Num.B, .int .i64 r_2.Num.C, .int .i64 r_2.Num.D, .int .i64 r_2.Exp]) hS2 k_sz_91_5 rfl rfl rfl rfl rfl rfl rfl (Nat.le_of_ble_eq_true rfl) rfl rfl) ?_
    rintro _ w_2 ⟨rfl, hS3⟩
    refine sq 5 rfl rfl (Y_assign (v := .bool true) rfl rfl) ?_
    refine rw_nil ?_
    refine cw_ret ?_
    obtain ⟨rfl, rfl⟩ := pr2 (some_inj hF1)
    exact ret2 Try.results160 (v1 := .agg #[.int .i64 r_2.Num.A, .int .i64 r_2.Num.B, .int .i64 r_2.Num.C, .int .i64 r_2.Num.D, .int .i64 r_2.Exp]) (resAt_cellA (B := some ⟨b, 0, none⟩) (i := 0) (cs := [.int .i64 r_2.Num.A, .int .i64 r_2.Num.B, .int .i64 r_2.Num.C, .int .i64 r_2.Num.D, .int .i64 r_2.Exp]) (vs := [.int .i64 r_2.Num.A, .int .i64 r_2.Num.B, .int .i64 r_2.Num.C, .int .i64 r_2.Num.D, .int .i64 r_2.Exp]) rfl k_ag_91 k_sz_91_5 (hS3.cf (i := 0) rfl) rfl rfl) (v2 := .bool true) (resAt_tmp rfl) ⟨rfl, (ST.subR (R' := []) (hS3.sel [] rfl rfl) (fun _ h => by cases h))⟩
  · skip
    have hF2 := cf' hF hb
    refine cw_skip ?_
    refine cw_seq ?_
    refine cw_region ?_
    refine sq 10 rfl rfl (Y_buildS (zs := [.int .i64 0, .int .i64 0, .int .i64 0, .int .i64 0, .int .i64 0]) (vs := []) (cs := [.int .i64 0, .int .i64 0, .int .i64 0, .int .i64 0, .int .i64 0]) k_pl_91 k_zero_91 rfl mpn rfl) ?_
    refine ss0 rfl rfl (Ys_store (i := 0) (s := 5) (B := some ⟨b, 0, none⟩) (T' := 91) (v := .agg #[.int .i64 0, .int .i64 0, .int .i64 0, .int .i64 0, .int .i64 0]) (vs := [.int .i64 0, .int .i64 0, .int .i64 0, .int .i64 0, .int .i64 0]) (k := 0) (cs' := [.int .i64 0, .int .i64 0, .int .i64 0, .int .i64 0, .int .i64 0]) hS1 k_sz_91_5 rfl rfl rfl rfl rfl rfl rfl (Nat.le_of_ble_eq_true rfl) rfl rfl) ?_
    rintro _ w_3 ⟨rfl, hS4⟩
    refine sq 5 rfl rfl (Y_assign (v := .bool true) rfl rfl) ?_
    refine rw_nil ?_
    refine cw_ret ?_
    obtain ⟨rfl, rfl⟩ := pr2 (some_inj hF2)
    exact ret2 Try.results160 (v1 := .agg #[.int .i64 0, .int .i64 0, .int .i64 0, .int .i64 0, .int .i64 0]) (resAt_cellA (B := some ⟨b, 0, none⟩) (i := 0) (cs := [.int .i64 0, .int .i64 0, .int .i64 0, .int .i64 0, .int .i64 0]) (vs := [.int .i64 0, .int .i64 0, .int .i64 0, .int .i64 0, .int .i64 0]) rfl k_ag_91 k_sz_91_5 (hS4.cf (i := 0) rfl) rfl rfl) (v2 := .bool true) (resAt_tmp rfl) ⟨rfl, (ST.subR (R' := []) (hS4.sel [] rfl rfl) (fun _ h => by cases h))⟩

theorem c_impl_IdentityMatrix (n : Int)  (w0 : World)  (hS : ST w0 [] w0 [] []) {r_ : TMatrix} {r_1 : Bool} (hF : F_impl_IdentityMatrix n = some (r_, r_1)) :
    CV Try.prog 102 #[.int .i64 n] w0 (fun v w' => ∃ (B : Option Addr) (c : Nat), v = .tuple #[.agg #[.int .i64 r_.Rows, .int .i64 r_.Cols, .slice B r_.Cells.length c], .bool r_1] ∧ ST w0 [] w' [⟨B, 91, (r_.Cells.flatMap enc_Dyadic), c * 5⟩] []) := by
  unfold F_impl_IdentityMatrix at hF
  refine cv_of_cw 9 Try.func102 rfl Try.ntmps102 rfl ?_
  refine cw_seq ?_
  refine cw_region ?_
  refine ss 2 rfl rfl (Ys_alloc (T := 62) (cs := [.int .i64 0, .int .i64 0, .slice none 0 0]) (m := 3) hS k_zero_62 rfl rfl rfl) ?_
  rintro _ w_ ⟨b, rfl, hS1⟩
  refine sq 3 rfl rfl (Y_assign (v := .bool false) rfl rfl) ?_
  refine rw_nil ?_
  refine cw_seq ?_
  refine cw_region ?_
  refine sq 4 rfl rfl (Y_move (v := .int .i64 n) rfl rfl) ?_
  refine sq 5 rfl rfl (Y_move (v := .int .i64 n) rfl rfl) ?_
  obtain ⟨⟨r_2, r_3⟩, hc, hF⟩ := bind_inv hF
  refine sc 6 rfl rfl (Yc_func (g := 109) (vs := [.int .i64 n, .int .i64 n, .func (.func 160) #[] #[]]) k_call_109 rfl (mc rfl (mc rfl (mc rfl mn))) (c_impl_matrixOf n n F_impl_IdentityMatrix_1 160 (#[]) [] _ k_call_160 (fun w hw x_0 x_1 y_0 y_1 h_ => c_impl_IdentityMatrix_1 x_0 x_1  w  hw h_) (hS1.inn0 [] rfl) hc)) ?_
  rintro _ w_1 ⟨B1, c1, rfl, hd⟩
  have hS2 := hS1.out0 hd
  have hS2 : ST w0 [] _ [⟨some ⟨b, 0, none⟩, 62, [.int .i64 0, .int .i64 0, .slice none 0 0], 3⟩, ⟨B1, 91, (r_2.Cells.flatMap enc_Dyadic), c1 * 5⟩] [] := hS2
  refine sq 7 rfl rfl (Y_extract (v := .agg #[.int .i64 r_2.Rows, .int .i64 r_2.Cols, .slice B1 r_2.Cells.length c1]) rfl rfl rfl) ?_
  refine sq 8 rfl rfl (Y_extract (v := .bool r_3) rfl rfl rfl) ?_
  refine ss0 rfl rfl (Ys_store (i := 0) (s := 3) (B := some ⟨b, 0, none⟩) (T' := 62) (v := .agg #[.int .i64 r_2.Rows, .int .i64 r_2.Cols, .slice B1 r_2.Cells.length c1]) (vs := [.int .i64 r_2.Rows, .int .i64 r_2.Cols, .slice B1 r_2.Cells.length c1]) (k := 0) (cs' := [.int .i64 r_2.Rows, .int .i64 r_2.Cols, .slice B1 r_2.Cells.length c1]) hS2 k_sz_62_3 rfl rfl rfl rfl rfl rfl rfl (Nat.le_of_ble_eq_true rfl) rfl rfl) ?_
  rintro _ w_2 ⟨rfl, hS3⟩
  have hS3 : ST w0 [] _ [⟨some ⟨b, 0, none⟩, 62, [.int .i64 r_2.Rows, .int .i64 r_2.Cols, .slice B1 r_2.Cells.length c1], 3⟩, ⟨B1, 91, (r_2.Cells.flatMap enc_Dyadic), c1 * 5⟩] [] := hS3
  refine sq 3 rfl rfl (Y_assign (v := .bool r_3) rfl rfl) ?_
  refine rw_nil ?_
  refine cw_ret ?_
  obtain ⟨rfl, rfl⟩ := pr2 (some_inj hF)
  exact ret2 Try.results102 (v1 := .agg #[.int .i64 r_2.Rows, .int .i64 r_2.Cols, .slice B1 r_2.Cells.length c1]) (resAt_cellA (B := some ⟨b, 0, none⟩) (i := 0) (cs := [.int .i64 r_2.Rows, .int .i64 r_2.Cols, .slice B1 r_2.Cells.length c1]) (vs := [.int .i64 r_2.Rows, .int .i64 r_2.Cols, .slice B1 r_2.Cells.length c1]) rfl k_ag_62 k_sz_62_3 (hS3.cf (i := 0) rfl) rfl rfl) (v2 := .bool r_3) (resAt_tmp rfl) ⟨B1, c1, rfl, (ST.subR (R' := []) (hS3.sel [1] rfl rfl) (fun _ h => by cases h))⟩

theorem c_slices_Equal_impl_Dyadic_impl_Dyadic (s1 : List TDyadic) (s2 : List TDyadic) (B : Option Addr) (c n : Nat) (B1 : Option Addr) (c1 n1 : Nat) (w0 : World) (hn : s1.length = n) (hn1 : s2.length = n1) (hS : ST w0 [] w0 [] [⟨B, (s1.flatMap enc_Dyadic)⟩, ⟨B1, (s2.flatMap enc_Dyadic)⟩]) {r_ : Bool} (hF : F_slices_Equal_impl_Dyadic_impl_Dyadic s1 s2 = some r_) :
    CV Try.prog 161 #[.slice B n c, .slice B1 n1 c1] w0 (fun v w' => v = .bool r_ ∧ ST w0 [] w' [] []) := by
  subst hn
  subst hn1
  unfold F_slices_Equal_impl_Dyadic_impl_Dyadic at hF
  refine cv_of_cw 26 Try.func161 rfl Try.ntmps161 rfl ?_
  refine cw_seq ?_
  refine cw_region ?_
  refine sq 4 rfl rfl (Y_assign (v := .bool false) rfl rfl) ?_
  refine rw_nil ?_
  refine cw_seq ?_
  refine cw_seq ?_
  refine cw_region ?_
  refine sq 6 rfl rfl (Y_move (v := .slice B s1.length c) rfl rfl) ?_
  refine sq 7 rfl rfl (Y_len (B := B) (m := s1.length) (c := c) k_sl_27_91 rfl rfl) ?_
  refine sq 8 rfl rfl (Y_move (v := .slice B1 s2.length c1) rfl rfl) ?_
  refine sq 9 rfl rfl (Y_len (B := B1) (m := s2.length) (c := c1) k_sl_27_91 rfl rfl) ?_
  refine sq 10 rfl rfl (Y_ne (k := .i64) (a := (s1.length : Int)) (b := (s2.length : Int)) rfl rfl rfl) ?_
  refine rw_nil ?_
  refine cw_cond (b := ((s1.length : Int) != (s2.length : Int))) rfl (fun hb => ?_) (fun hb => ?_)
  · skip
    have hF1 := ct hF hb
    refine cw_seq ?_
    refine cw_region ?_
    refine sq 4 rfl rfl (Y_assign (v := .bool false) rfl rfl) ?_
    refine rw_nil ?_
    refine cw_ret ?_
    obtain rfl := some_inj hF1
    exact ret1 Try.results161 (v1 := .bool false) (resAt_tmp rfl) ⟨rfl, (ST.subR (R' := []) (hS.sel [] rfl rfl) (fun _ h => by cases h))⟩
  · skip
    have hF2 := cf' hF hb
    refine cw_skip ?_
    refine cw_seq ?_
    refine cw_seq ?_
    refine cw_region ?_
    refine sq 11 rfl rfl (Y_move (v := .slice B s1.length c) rfl rfl) ?_
    refine sq 12 rfl rfl (Y_len (B := B) (m := s1.length) (c := c) k_sl_27_91 rfl rfl) ?_
    refine sq 13 rfl rfl (Y_move (v := .int .i64 0) rfl rfl) ?_
    refine rw_nil ?_
    obtain ⟨hN, hF2⟩ := chk_inv hF2
    obtain ⟨z, hz, hF3⟩ := bind_inv hF2
    refine cw_block ?_
    refine cw_loop (fun k f w => ∃ (i : Nat), FF f [(0, .slice B s1.length c), (1, .slice B1 s2.length c1), (12, .int .i64 (s1.length : Int)), (13, .int .i64 (i : Int))] ∧ ST w0 [] w [] [⟨B, (s1.flatMap enc_Dyadic)⟩, ⟨B1, (s2.flatMap enc_Dyadic)⟩] ∧ i + k = s1.length ∧ forX (F_slices_Equal_impl_Dyadic_impl_Dyadic_l1 s1 s2) k i () = some z) s1.length ⟨0, (FF.cons rfl (FF.cons rfl (FF.cons rfl (FF.cons rfl FF.nil)))), (hS.sel [] rfl rfl), Nat.zero_add _, hz⟩ ?_
    rintro k_ f w ⟨i, hf, hS1, hik, hL⟩
    refine cw_seq ?_
    refine cw_region ?_
    refine sq 14 rfl rfl (Y_lt (k := .i64) (a := (i : Int)) (b := (s1.length : Int)) rfl (hf.get 13 3 rfl) (hf.get 12 2 rfl)) ?_
    refine rw_nil ?_
    refine cw_seq ?_
    refine cw_cond (b := (decide ((i : Int) < (s1.length : Int)))) rfl (fun hlt => ?_) (fun hlt => ?_)
    · skip
      have hlt1 : i < s1.length := by have h := of_decide_eq_true hlt; omega
      obtain ⟨k_1, rfl⟩ : ∃ k2, k_ = k2 + 1 := ⟨k_ - 1, by omega⟩
      obtain ⟨y, hb1, hL1⟩ := forX_go hL
      unfold F_slices_Equal_impl_Dyadic_impl_Dyadic_l1 at hb1
      refine cw_skip ?_
      refine cw_seq ?_
      refine cw_block ?_
      refine cw_seq ?_
      refine cw_region ?_
      refine sq 15 rfl rfl (Y_move (v := .int .i64 (i : Int)) rfl (hf.get 13 3 rfl)) ?_
      refine sq 5 rfl rfl (Y_assign (v := .int .i64 (i : Int)) rfl rfl) ?_
      refine rw_nil ?_
      refine cw_seq ?_
      obtain ⟨x, hx, hb1⟩ := bind_inv hb1
      obtain ⟨x1, hx1, hb1⟩ := bind_inv hb1
      refine ra_start (ST.sel hS1 [] rfl rfl).fn (by kernel_rfl) ?_
      have hS2 := hS1.drew
      refine ra_q 0 16 (v := .slice B s1.length c) rfl rfl rfl (by kernel_rfl) (by kernel_rfl) (by kernel_rfl) (ST.sel hS2 [] rfl rfl) (fun w' hw' => (Y_move (v := .slice B s1.length c) rfl (hf.get 0 0 rfl))) ?_
      refine ra_q 1 17 (v := .int .i64 (i : Int)) rfl rfl rfl (by kernel_rfl) (by kernel_rfl) (by kernel_rfl) (ST.sel hS2 [] rfl rfl) (fun w' hw' => (Y_move (v := .int .i64 (i : Int)) rfl rfl)) ?_
      refine ra_q 2 18 (v := pt B ((i : Int).toNat * 5)) rfl rfl rfl (by kernel_rfl) (by kernel_rfl) (by kernel_rfl) (ST.sel hS2 [] rfl rfl) (fun w' hw' => (Y_index (B := B) (m := s1.length) (c := c) (k := .i64) (i := (i : Int)) k_sl_27_91 k_sz_91_5 rfl rfl rfl (gi_isSome enc_Dyadic_len rfl (ST.rf hw' (i := 0) rfl) hx) (getI_nn hx) (getI_ltI hx rfl))) ?_
      refine ra_q 3 19 (v := .agg #[.int .i64 x.Num.A, .int .i64 x.Num.B, .int .i64 x.Num.C, .int .i64 x.Num.D, .int .i64 x.Exp]) rfl rfl rfl (by kernel_rfl) (by kernel_rfl) (by kernel_rfl) (ST.sel hS2 [] rfl rfl) (fun w' hw' => (Y_loadA (B := B) (i := (i : Int).toNat * 5) (cs := (s1.flatMap enc_Dyadic)) (vs := [.int .i64 x.Num.A, .int .i64 x.Num.B, .int .i64 x.Num.C, .int .i64 x.Num.D, .int .i64 x.Exp]) k_ag_91 k_sz_91_5 rfl rfl (ST.rf hw' (i := 0) rfl) (enc_Dyadic_len x) (gi_seg enc_Dyadic_len hx))) ?_
      refine ra_q 4 20 (v := .slice B1 s2.length c1) rfl rfl rfl (by kernel_rfl) (by kernel_rfl) (by kernel_rfl) (ST.sel hS2 [] rfl rfl) (fun w' hw' => (Y_move (v := .slice B1 s2.length c1) rfl (hf.get 1 1 rfl))) ?_
      refine ra_q 5 21 (v := .int .i64 (i : Int)) rfl rfl rfl (by kernel_rfl) (by kernel_rfl) (by kernel_rfl) (ST.sel hS2 [] rfl rfl) (fun w' hw' => (Y_move (v := .int .i64 (i : Int)) rfl rfl)) ?_
      refine ra_q 6 22 (v := pt B1 ((i : Int).toNat * 5)) rfl rfl rfl (by kernel_rfl) (by kernel_rfl) (by kernel_rfl) (ST.sel hS2 [] rfl rfl) (fun w' hw' => (Y_index (B := B1) (m := s2.length) (c := c1) (k := .i64) (i := (i : Int)) k_sl_27_91 k_sz_91_5 rfl rfl rfl (gi_isSome enc_Dyadic_len rfl (ST.rf hw' (i := 1) rfl) hx1) (getI_nn hx1) (getI_ltI hx1 rfl))) ?_
      refine ra_q 7 23 (v := .agg #[.int .i64 x1.Num.A, .int .i64 x1.Num.B, .int .i64 x1.Num.C, .int .i64 x1.Num.D, .int .i64 x1.Exp]) rfl rfl rfl (by kernel_rfl) (by kernel_rfl) (by kernel_rfl) (ST.sel hS2 [] rfl rfl) (fun w' hw' => (Y_loadA (B := B1) (i := (i : Int).toNat * 5) (cs := (s2.flatMap enc_Dyadic)) (vs := [.int .i64 x1.Num.A, .int .i64 x1.Num.B, .int .i64 x1.Num.C, .int .i64 x1.Num.D, .int .i64 x1.Exp]) k_ag_91 k_sz_91_5 rfl rfl (ST.rf hw' (i := 1) rfl) (enc_Dyadic_len x1) (gi_seg enc_Dyadic_len hx1))) ?_
      refine ra_q 8 24 (v := .bool (!(((x.Num.A == x1.Num.A) && ((x.Num.B == x1.Num.B) && ((x.Num.C == x1.Num.C) && ((x.Num.D == x1.Num.D) && true)))) && ((x.Exp == x1.Exp) && true)))) rfl rfl rfl (by kernel_rfl) (by kernel_rfl) (by kernel_rfl) (ST.sel hS2 [] rfl rfl) (fun w' hw' => (Y_neA (xs := #[.int .i64 x.Num.A, .int .i64 x.Num.B, .int .i64 x.Num.C, .int .i64 x.Num.D, .int .i64 x.Exp]) (ys := #[.int .i64 x1.Num.A, .int .i64 x1.Num.B, .int .i64 x1.Num.C, .int .i64 x1.Num.D, .int .i64 x1.Exp]) (b := (((x.Num.A == x1.Num.A) && ((x.Num.B == x1.Num.B) && ((x.Num.C == x1.Num.C) && ((x.Num.D == x1.Num.D) && true)))) && ((x.Exp == x1.Exp) && true))) k_eg_91 rfl rfl rfl (eqr_struct (xs := [.int .i64 x.Num.A, .int .i64 x.Num.B, .int .i64 x.Num.C, .int .i64 x.Num.D, .int .i64 x.Exp]) (ys := [.int .i64 x1.Num.A, .int .i64 x1.Num.B, .int .i64 x1.Num.C, .int .i64 x1.Num.D, .int .i64 x1.Exp]) k_st_91 k_ho_91 (pts_ag (us := [.int .i64 x.Num.A, .int .i64 x.Num.B, .int .i64 x.Num.C, .int .i64 x.Num.D]) (vs := [.int .i64 x1.Num.A, .int .i64 x1.Num.B, .int .i64 x1.Num.C, .int .i64 x1.Num.D]) k_ag_89 k_sz_89_4 rfl rfl (eqr_struct (xs := [.int .i64 x.Num.A, .int .i64 x.Num.B, .int .i64 x.Num.C, .int .i64 x.Num.D]) (ys := [.int .i64 x1.Num.A, .int .i64 x1.Num.B, .int .i64 x1.Num.C, .int .i64 x1.Num.D]) k_st_89 k_ho_89 (pts_sc k_sc_3 rfl rfl (eqr_int k_int_3_i64) (pts_sc k_sc_3 rfl rfl (eqr_int k_int_3_i64) (pts_sc k_sc_3 rfl rfl (eqr_int k_int_3_i64) (pts_sc k_sc_3 rfl rfl (eqr_int k_int_3_i64) pts_nil))))) (pts_sc k_sc_3 rfl rfl (eqr_int k_int_3_i64) pts_nil))))) ?_
      refine ra_done (by kernel_rfl) ?_
      refine cw_cond (b := (!(((x.Num.A == x1.Num.A) && ((x.Num.B == x1.Num.B) && ((x.Num.C == x1.Num.C) && ((x.Num.D == x1.Num.D) && true)))) && ((x.Exp == x1.Exp) && true)))) rfl (fun hb2 => ?_) (fun hb2 => ?_)
      · skip
        have hF4 := ct hb1 hb2
        refine cw_seq ?_
        refine cw_region ?_
        refine sq 4 rfl rfl (Y_assign (v := .bool false) rfl rfl) ?_
        refine rw_nil ?_
        refine cw_ret ?_
        obtain rfl := some_inj hF4
        obtain rfl := some_inj hL1
        obtain rfl := some_inj hF3
        exact ret1 Try.results161 (v1 := .bool false) (resAt_tmp rfl) ⟨rfl, (ST.subR (R' := []) (hS2.sel [] rfl rfl) (fun _ h => by cases h))⟩
      · skip
        have hF5 := cf' hb1 hb2
        refine cw_skip ?_
        refine cw_region ?_
        refine sq 25 rfl rfl (Y_add (k := .i64) (a := (i : Int)) (b := 1) rfl (hf.get 13 3 rfl) rfl) ?_
        refine sq 13 rfl rfl (Y_move (v := .int .i64 (IntKind.i64.wrap ((i : Int) + 1))) rfl rfl) ?_
        refine rw_nil ?_
        obtain rfl := some_inj hF5
        exact ⟨k_1, Nat.lt_succ_self _, i + 1, (FF.cons (hf.get 0 0 rfl) (FF.cons (hf.get 1 1 rfl) (FF.cons (hf.get 12 2 rfl) (FF.cons (congrArg (Value.int .i64) (wr_succ hlt1 hN)) FF.nil)))), (hS2.sel [] rfl rfl), (by omega), hL1⟩
    · skip
      obtain rfl : k_ = 0 := by have h := of_decide_eq_false hlt; omega
      refine cw_exit rfl ?_
      obtain rfl := some_inj hL
      refine cw_seq ?_
      refine cw_region ?_
      refine sq 4 rfl rfl (Y_assign (v := .bool true) rfl rfl) ?_
      refine rw_nil ?_
      refine cw_ret ?_
      obtain rfl := some_inj hF3
      exact ret1 Try.results161 (v1 := .bool true) (resAt_tmp rfl) ⟨rfl, (ST.subR (R' := []) (hS1.sel [] rfl rfl) (fun _ h => by cases h))⟩
end Go.VK
