/- Walks: each Go function returns what its Lean function says. By program. -/
import Derived.Test.YthfilimbhhijaaaIsOneQubitFa
set_option linter.unusedVariables false
set_option maxRecDepth 100000
set_option maxHeartbeats 1000000
namespace Go.VK
open Go.RowKit
open Go.Proofs
attribute [local irreducible] CW RW RA CV Y Yw Yc Ys RetOf
attribute [local irreducible] F_laws_szDyadicS F_laws_szMatrix F_laws_toRing F_laws_toDyadic F_laws_toDyadicS F_laws_toMatrix F_laws_eqRing F_laws_eqDyadic F_laws_eqDyadicS F_laws_eqMatrix F_spec_l1In F_spec_l1All F_spec_l1Good F_spec_l1Even F_spec_l2Good F_spec_l1Has F_spec_l3Dim F_spec_l3Good F_spec_l1Root F_spec_l1Half F_spec_l2Low F_spec_l2C_ring F_spec_l1Mul F_spec_l2C_mul F_spec_l1Add F_spec_l2C_add F_spec_l2C_times F_spec_l1Conj F_spec_l2Conj F_spec_l3Adj F_spec_EqualMatrices F_spec_l1Turn F_spec_l2Power F_spec_l3Unit F_spec_IsUnitary F_spec_l9Good F_spec_IsOneQubit F_slices_IndexFunc_impl_Dyadic_impl_Dyadic F_slices_ContainsFunc_impl_Dyadic_impl_Dyadic F_impl_within F_impl_isDim F_impl_isCoef F_impl_IsValidRing F_impl_isEven F_impl_IsValidDyadic F_impl_IsValidMatrix_1 F_impl_IsValidMatrix F_impl_matrixOf F_impl_ringIf F_impl_Conjugate F_impl_ConjDyadic F_impl_Matrix_at F_impl_Adjoint_1 F_impl_Adjoint F_impl_MulRing F_impl_DivRootTwo F_impl_DyadicOf F_impl_MulDyadic F_impl_MulRootTwo F_impl_raised F_impl_combined F_impl_AddRing F_impl_AddDyadic F_impl_MulMatrix_1 F_impl_MulMatrix F_impl_whole F_impl_IdentityMatrix_1 F_impl_IdentityMatrix F_slices_Equal_impl_Dyadic_impl_Dyadic F_impl_EqualMatrices F_impl_IsUnitary F_impl_IsOneQubit F_laws_FnExactIsOneQubit
theorem c_laws_szDyadicS (a : List TDyadic) (left : Int) (B : Option Addr) (c n : Nat) (w0 : World) (hn : a.length = n) (hS : ST w0 [] w0 [] [⟨B, (a.flatMap enc_Dyadic)⟩]) {r_ : Int} (hF : F_laws_szDyadicS a left = some r_) :
    CV Try.prog 58 #[.slice B n c, .int .i64 left] w0 (fun v w' => v = .int .i64 r_ ∧ ST w0 [] w' [] []) := by
  subst hn
  unfold F_laws_szDyadicS at hF
  refine cv_of_cw 12 Try.func58 rfl Try.ntmps58 rfl ?_
  refine cw_seq ?_
  refine cw_region ?_
  refine sq 4 rfl rfl (Y_assign (v := .int .i64 0) rfl rfl) ?_
  refine rw_nil ?_
  refine cw_seq ?_
  refine cw_region ?_
  refine sq 5 rfl rfl (Y_move (v := .int .i64 left) rfl rfl) ?_
  refine sq 6 rfl rfl (Y_move (v := .slice B a.length c) rfl rfl) ?_
  refine sq 7 rfl rfl (Y_len (B := B) (m := a.length) (c := c) k_sl_22_158 rfl rfl) ?_
  refine sq 8 rfl rfl (Y_sub (k := .i64) (a := left) (b := (a.length : Int)) rfl rfl rfl) ?_
  refine sq 1 rfl rfl (Y_assign (v := .int .i64 (IntKind.i64.wrap (left - (a.length : Int)))) rfl rfl) ?_
  refine rw_nil ?_
  refine cw_seq ?_
  refine cw_seq ?_
  refine cw_region ?_
  refine sq 9 rfl rfl (Y_move (v := .int .i64 (IntKind.i64.wrap (left - (a.length : Int)))) rfl rfl) ?_
  refine sq 10 rfl rfl (Y_lt (k := .i64) (a := (IntKind.i64.wrap (left - (a.length : Int)))) (b := 0) rfl rfl rfl) ?_
  refine rw_nil ?_
  refine cw_cond (b := (decide ((IntKind.i64.wrap (left - (a.length : Int))) < 0))) rfl (fun hb => ?_) (fun hb => ?_)
  · skip
    have hF1 := ct hF hb
    refine cw_seq ?_
    refine cw_region ?_
    refine sq 4 rfl rfl (Y_assign (v := .int .i64 (-1)) rfl rfl) ?_
    refine rw_nil ?_
    refine cw_ret ?_
    obtain rfl := some_inj hF1
    exact ret1 Try.results58 (v1 := .int .i64 (-1)) (resAt_tmp rfl) ⟨rfl, (ST.subR (R' := []) (hS.sel [] rfl rfl) (fun _ h => by cases h))⟩
  · skip
    have hF2 := cf' hF hb
    refine cw_skip ?_
    refine cw_seq ?_
    refine cw_region ?_
    refine sq 11 rfl rfl (Y_move (v := .int .i64 (IntKind.i64.wrap (left - (a.length : Int)))) rfl rfl) ?_
    refine sq 4 rfl rfl (Y_assign (v := .int .i64 (IntKind.i64.wrap (left - (a.length : Int)))) rfl rfl) ?_
    refine rw_nil ?_
    refine cw_ret ?_
    obtain rfl := some_inj hF2
    exact ret1 Try.results58 (v1 := .int .i64 (IntKind.i64.wrap (left - (a.length : Int)))) (resAt_tmp rfl) ⟨rfl, (ST.subR (R' := []) (hS.sel [] rfl rfl) (fun _ h => by cases h))⟩

theorem c_laws_szMatrix (a : TMatrix) (left : Int) (B : Option Addr) (c n : Nat) (w0 : World) (hn : a.Cells.length = n) (hS : ST w0 [] w0 [] [⟨B, (a.Cells.flatMap enc_Dyadic)⟩]) {r_ : Int} (hF : F_laws_szMatrix a left = some r_) :
    CV Try.prog 34 #[.agg #[.int .i64 a.Rows, .int .i64 a.Cols, .slice B n c], .int .i64 left] w0 (fun v w' => v = .int .i64 r_ ∧ ST w0 [] w' [] []) := by
  subst hn
  unfold F_laws_szMatrix at hF
  refine cv_of_cw 12 Try.func34 rfl Try.ntmps34 rfl ?_
  refine cw_seq ?_
  refine cw_region ?_
  refine ss 2 rfl rfl (Ys_box (T := 58) (v := .agg #[.int .i64 a.Rows, .int .i64 a.Cols, .slice B a.Cells.length c]) (cs := [.int .i64 a.Rows, .int .i64 a.Cols, .slice B a.Cells.length c]) (m := 3) hS rfl rfl rfl rfl) ?_
  rintro _ w_ ⟨b, rfl, hS1⟩
  refine sq 4 rfl rfl (Y_assign (v := .int .i64 0) rfl rfl) ?_
  refine rw_nil ?_
  refine cw_seq ?_
  refine cw_region ?_
  refine sq 5 rfl rfl (Y_fieldAddr (B := some ⟨b, 0, none⟩) (i := 0) (s := 0) k_fd_58_2_2_22 k_sz_22_1 rfl rfl) ?_
  refine sq 6 rfl rfl (Y_load1 (B := some ⟨b, 0, none⟩) (i := 2) (cs := [.int .i64 a.Rows, .int .i64 a.Cols, .slice B a.Cells.length c]) (v := .slice B a.Cells.length c) k_sc_22 rfl rfl (hS1.cf (i := 0) rfl) rfl) ?_
  refine sq 7 rfl rfl (Y_move (v := .int .i64 left) rfl rfl) ?_
  obtain ⟨r_1, hc, hF⟩ := bind_inv hF
  refine sc 8 rfl rfl (Yc_func (g := 58) (vs := [.slice B a.Cells.length c, .int .i64 left]) k_call_58 rfl (mc rfl (mc rfl mn)) (c_laws_szDyadicS a.Cells left B c a.Cells.length _ rfl (hS1.inn0 [(true, 0)] rfl) hc)) ?_
  rintro _ w_1 ⟨rfl, hd⟩
  have hS2 := hS1.out00 hd
  refine sq 1 rfl rfl (Y_assign (v := .int .i64 r_1) rfl rfl) ?_
  refine rw_nil ?_
  refine cw_seq ?_
  refine cw_seq ?_
  refine cw_region ?_
  refine sq 9 rfl rfl (Y_move (v := .int .i64 r_1) rfl rfl) ?_
  refine sq 10 rfl rfl (Y_lt (k := .i64) (a := r_1) (b := 0) rfl rfl rfl) ?_
  refine rw_nil ?_
  refine cw_cond (b := (decide (r_1 < 0))) rfl (fun hb => ?_) (fun hb => ?_)
  · skip
    have hF1 := ct hF hb
    refine cw_seq ?_
    refine cw_region ?_
    refine sq 4 rfl rfl (Y_assign (v := .int .i64 (-1)) rfl rfl) ?_
    refine rw_nil ?_
    refine cw_ret ?_
    obtain rfl := some_inj hF1
    exact ret1 Try.results34 (v1 := .int .i64 (-1)) (resAt_tmp rfl) ⟨rfl, (ST.subR (R' := []) (hS2.sel [] rfl rfl) (fun _ h => by cases h))⟩
  · skip
    have hF2 := cf' hF hb
    refine cw_skip ?_
    refine cw_seq ?_
    refine cw_region ?_
    refine sq 11 rfl rfl (Y_move (v := .int .i64 r_1) rfl rfl) ?_
    refine sq 4 rfl rfl (Y_assign (v := .int .i64 r_1) rfl rfl) ?_
    refine rw_nil ?_
    refine cw_ret ?_
    obtain rfl := some_inj hF2
    exact ret1 Try.results34 (v1 := .int .i64 r_1) (resAt_tmp rfl) ⟨rfl, (ST.subR (R' := []) (hS2.sel [] rfl rfl) (fun _ h => by cases h))⟩

theorem c_laws_toRing (a : TRing)  (w0 : World)  (hS : ST w0 [] w0 [] []) {r_ : TRing} (hF : F_laws_toRing a = some r_) :
    CV Try.prog 184 #[.agg #[.int .i64 a.A, .int .i64 a.B, .int .i64 a.C, .int .i64 a.D]] w0 (fun v w' => v = .agg #[.int .i64 r_.A, .int .i64 r_.B, .int .i64 r_.C, .int .i64 r_.D] ∧ ST w0 [] w' [] []) := by
  unfold F_laws_toRing at hF
  refine cv_of_cw 17 Try.func184 rfl Try.ntmps184 rfl ?_
  refine cw_seq ?_
  refine cw_region ?_
  refine ss 1 rfl rfl (Ys_box (T := 156) (v := .agg #[.int .i64 a.A, .int .i64 a.B, .int .i64 a.C, .int .i64 a.D]) (cs := [.int .i64 a.A, .int .i64 a.B, .int .i64 a.C, .int .i64 a.D]) (m := 4) hS rfl rfl rfl rfl) ?_
  rintro _ w_ ⟨b, rfl, hS1⟩
  refine ss 2 rfl rfl (Ys_alloc (T := 89) (cs := [.int .i64 0, .int .i64 0, .int .i64 0, .int .i64 0]) (m := 4) hS1 k_zero_89 rfl rfl rfl) ?_
  rintro _ w_1 ⟨b1, rfl, hS2⟩
  have hS2 : ST w0 [] _ [⟨some ⟨b, 0, none⟩, 156, [.int .i64 a.A, .int .i64 a.B, .int .i64 a.C, .int .i64 a.D], 4⟩, ⟨some ⟨b1, 0, none⟩, 89, [.int .i64 0, .int .i64 0, .int .i64 0, .int .i64 0], 4⟩] [] := hS2
  refine rw_nil ?_
  refine cw_seq ?_
  refine cw_region ?_
  refine ss 3 rfl rfl (Ys_alloc (T := 89) (cs := [.int .i64 0, .int .i64 0, .int .i64 0, .int .i64 0]) (m := 4) hS2 k_zero_89 rfl rfl rfl) ?_
  rintro _ w_2 ⟨b2, rfl, hS3⟩
  have hS3 : ST w0 [] _ [⟨some ⟨b, 0, none⟩, 156, [.int .i64 a.A, .int .i64 a.B, .int .i64 a.C, .int .i64 a.D], 4⟩, ⟨some ⟨b1, 0, none⟩, 89, [.int .i64 0, .int .i64 0, .int .i64 0, .int .i64 0], 4⟩, ⟨some ⟨b2, 0, none⟩, 89, [.int .i64 0, .int .i64 0, .int .i64 0, .int .i64 0], 4⟩] [] := hS3
  refine rw_nil ?_
  refine cw_seq ?_
  refine cw_region ?_
  refine sq 4 rfl rfl (Y_fieldAddr (B := some ⟨b, 0, none⟩) (i := 0) (s := 0) k_fd_156_0_0_3 k_sz_3_1 rfl rfl) ?_
  refine sq 5 rfl rfl (Y_load1 (B := some ⟨b, 0, none⟩) (i := 0) (cs := [.int .i64 a.A, .int .i64 a.B, .int .i64 a.C, .int .i64 a.D]) (v := .int .i64 a.A) k_sc_3 rfl rfl (hS3.cf (i := 0) rfl) rfl) ?_
  refine sq 6 rfl rfl (Y_fieldAddr (B := some ⟨b2, 0, none⟩) (i := 0) (s := 0) k_fd_89_0_0_3 k_sz_3_1 rfl rfl) ?_
  refine ss0 rfl rfl (Ys_store (i := 2) (s := 1) (B := some ⟨b2, 0, none⟩) (T' := 89) (v := .int .i64 a.A) (vs := [.int .i64 a.A]) (k := 0) (cs' := [.int .i64 a.A, .int .i64 0, .int .i64 0, .int .i64 0]) hS3 k_sz_3_1 rfl rfl rfl rfl rfl rfl rfl (Nat.le_of_ble_eq_true rfl) rfl rfl) ?_
  rintro _ w_3 ⟨rfl, hS4⟩
  have hS4 : ST w0 [] _ [⟨some ⟨b, 0, none⟩, 156, [.int .i64 a.A, .int .i64 a.B, .int .i64 a.C, .int .i64 a.D], 4⟩, ⟨some ⟨b1, 0, none⟩, 89, [.int .i64 0, .int .i64 0, .int .i64 0, .int .i64 0], 4⟩, ⟨some ⟨b2, 0, none⟩, 89, [.int .i64 a.A, .int .i64 0, .int .i64 0, .int .i64 0], 4⟩] [] := hS4
  refine rw_nil ?_
  refine cw_seq ?_
  refine cw_region ?_
  refine sq 7 rfl rfl (Y_fieldAddr (B := some ⟨b, 0, none⟩) (i := 0) (s := 0) k_fd_156_1_1_3 k_sz_3_1 rfl rfl) ?_
  refine sq 8 rfl rfl (Y_load1 (B := some ⟨b, 0, none⟩) (i := 1) (cs := [.int .i64 a.A, .int .i64 a.B, .int .i64 a.C, .int .i64 a.D]) (v := .int .i64 a.B) k_sc_3 rfl rfl (hS4.cf (i := 0) rfl) rfl) ?_
  refine sq 9 rfl rfl (Y_fieldAddr (B := some ⟨b2, 0, none⟩) (i := 0) (s := 0) k_fd_89_1_1_3 k_sz_3_1 rfl rfl) ?_
  refine ss0 rfl rfl (Ys_store (i := 2) (s := 1) (B := some ⟨b2, 0, none⟩) (T' := 89) (v := .int .i64 a.B) (vs := [.int .i64 a.B]) (k := 1) (cs' := [.int .i64 a.A, .int .i64 a.B, .int .i64 0, .int .i64 0]) hS4 k_sz_3_1 rfl rfl rfl rfl rfl rfl rfl (Nat.le_of_ble_eq_true rfl) rfl rfl) ?_
  rintro _ w_4 ⟨rfl, hS5⟩
  have hS5 : ST w0 [] _ [⟨some ⟨b, 0, none⟩, 156, [.int .i64 a.A, .int .i64 a.B, .int .i64 a.C, .int .i64 a.D], 4⟩, ⟨some ⟨b1, 0, none⟩, 89, [.int .i64 0, .int .i64 0, .int .i64 0, .int .i64 0], 4⟩, ⟨some ⟨b2, 0, none⟩, 89, [.int .i64 a.A, .int .i64 a.B, .int .i64 0, .int .i64 0], 4⟩] [] := hS5
  refine rw_nil ?_
  refine cw_seq ?_
  refine cw_region ?_
  refine sq 10 rfl rfl (Y_fieldAddr (B := some ⟨b, 0, none⟩) (i := 0) (s := 0) k_fd_156_2_2_3 k_sz_3_1 rfl rfl) ?_
  refine sq 11 rfl rfl (Y_load1 (B := some ⟨b, 0, none⟩) (i := 2) (cs := [.int .i64 a.A, .int .i64 a.B, .int .i64 a.C, .int .i64 a.D]) (v := .int .i64 a.C) k_sc_3 rfl rfl (hS5.cf (i := 0) rfl) rfl) ?_
  refine sq 12 rfl rfl (Y_fieldAddr (B := some ⟨b2, 0, none⟩) (i := 0) (s := 0) k_fd_89_2_2_3 k_sz_3_1 rfl rfl) ?_
  refine ss0 rfl rfl (Ys_store (i := 2) (s := 1) (B := some ⟨b2, 0, none⟩) (T' := 89) (v := .int .i64 a.C) (vs := [.int .i64 a.C]) (k := 2) (cs' := [.int .i64 a.A, .int .i64 a.B, .int .i64 a.C, .int .i64 0]) hS5 k_sz_3_1 rfl rfl rfl rfl rfl rfl rfl (Nat.le_of_ble_eq_true rfl) rfl rfl) ?_
  rintro _ w_5 ⟨rfl, hS6⟩
  have hS6 : ST w0 [] _ [⟨some ⟨b, 0, none⟩, 156, [.int .i64 a.A, .int .i64 a.B, .int .i64 a.C, .int .i64 a.D], 4⟩, ⟨some ⟨b1, 0, none⟩, 89, [.int .i64 0, .int .i64 0, .int .i64 0, .int .i64 0], 4⟩, ⟨some ⟨b2, 0, none⟩, 89, [.int .i64 a.A, .int .i64 a.B, .int .i64 a.C, .int .i64 0], 4⟩] [] := hS6
  refine rw_nil ?_
  refine cw_seq ?_
  refine cw_region ?_
  refine sq 13 rfl rfl (Y_fieldAddr (B := some ⟨b, 0, none⟩) (i := 0) (s := 0) k_fd_156_3_3_3 k_sz_3_1 rfl rfl) ?_
  refine sq 14 rfl rfl (Y_load1 (B := some ⟨b, 0, none⟩) (i := 3) (cs := [.int .i64 a.A, .int .i64 a.B, .int .i64 a.C, .int .i64 a.D]) (v := .int .i64 a.D) k_sc_3 rfl rfl (hS6.cf (i := 0) rfl) rfl) ?_
  refine sq 15 rfl rfl (Y_fieldAddr (B := some ⟨b2, 0, none⟩) (i := 0) (s := 0) k_fd_89_3_3_3 k_sz_3_1 rfl rfl) ?_
  refine ss0 rfl rfl (Ys_store (i := 2) (s := 1) (B := some ⟨b2, 0, none⟩) (T' := 89) (v := .int .i64 a.D) (vs := [.int .i64 a.D]) (k := 3) (cs' := [.int .i64 a.A, .int .i64 a.B, .int .i64 a.C, .int .i64 a.D]) hS6 k_sz_3_1 rfl rfl rfl rfl rfl rfl rfl (Nat.le_of_ble_eq_true rfl) rfl rfl) ?_
  rintro _ w_6 ⟨rfl, hS7⟩
  have hS7 : ST w0 [] _ [⟨some ⟨b, 0, none⟩, 156, [.int .i64 a.A, .int .i64 a.B, .int .i64 a.C, .int .i64 a.D], 4⟩, ⟨some ⟨b1, 0, none⟩, 89, [.int .i64 0, .int .i64 0, .int .i64 0, .int .i64 0], 4⟩, ⟨some ⟨b2, 0, none⟩, 89, [.int .i64 a.A, .int .i64 a.B, .int .i64 a.C, .int .i64 a.D], 4⟩] [] := hS7
  refine rw_nil ?_
  refine cw_seq ?_
  refine cw_region ?_
  refine sq 16 rfl rfl (Y_loadA (B := some ⟨b2, 0, none⟩) (i := 0) (cs := [.int .i64 a.A, .int .i64 a.B, .int .i64 a.C, .int .i64 a.D]) (vs := [.int .i64 a.A, .int .i64 a.B, .int .i64 a.C, .int .i64 a.D]) k_ag_89 k_sz_89_4 rfl rfl (hS7.cf (i := 2) rfl) rfl rfl) ?_
  refine ss0 rfl rfl (Ys_store (i := 1) (s := 4) (B := some ⟨b1, 0, none⟩) (T' := 89) (v := .agg #[.int .i64 a.A, .int .i64 a.B, .int .i64 a.C, .int .i64 a.D]) (vs := [.int .i64 a.A, .int .i64 a.B, .int .i64 a.C, .int .i64 a.D]) (k := 0) (cs' := [.int .i64 a.A, .int .i64 a.B, .int .i64 a.C, .int .i64 a.D]) hS7 k_sz_89_4 rfl rfl rfl rfl rfl rfl rfl (Nat.le_of_ble_eq_true rfl) rfl rfl) ?_
  rintro _ w_7 ⟨rfl, hS8⟩
  have hS8 : ST w0 [] _ [⟨some ⟨b, 0, none⟩, 156, [.int .i64 a.A, .int .i64 a.B, .int .i64 a.C, .int .i64 a.D], 4⟩, ⟨some ⟨b1, 0, none⟩, 89, [.int .i64 a.A, .int .i64 a.B, .int .i64 a.C, .int .i64 a.D], 4⟩, ⟨some ⟨b2, 0, none⟩, 89, [.int .i64 a.A, .int .i64 a.B, .int .i64 a.C, .int .i64 a.D], 4⟩] [] := hS8
  refine rw_nil ?_
  refine cw_ret ?_
  obtain rfl := some_inj hF
  exact ret1 Try.results184 (v1 := .agg #[.int .i64 a.A, .int .i64 a.B, .int .i64 a.C, .int .i64 a.D]) (resAt_cellA (B := some ⟨b1, 0, none⟩) (i := 0) (cs := [.int .i64 a.A, .int .i64 a.B, .int .i64 a.C, .int .i64 a.D]) (vs := [.int .i64 a.A, .int .i64 a.B, .int .i64 a.C, .int .i64 a.D]) rfl k_ag_89 k_sz_89_4 (hS8.cf (i := 1) rfl) rfl rfl) ⟨rfl, (ST.subR (R' := []) (hS8.sel [] rfl rfl) (fun _ h => by cases h))⟩

theorem c_laws_toDyadic (a : TDyadic)  (w0 : World)  (hS : ST w0 [] w0 [] []) {r_ : TDyadic} (hF : F_laws_toDyadic a = some r_) :
    CV Try.prog 132 #[.agg #[.int .i64 a.Num.A, .int .i64 a.Num.B, .int .i64 a.Num.C, .int .i64 a.Num.D, .int .i64 a.Exp]] w0 (fun v w' => v = .agg #[.int .i64 r_.Num.A, .int .i64 r_.Num.B, .int .i64 r_.Num.C, .int .i64 r_.Num.D, .int .i64 r_.Exp] ∧ ST w0 [] w' [] []) := by
  unfold F_laws_toDyadic at hF
  refine cv_of_cw 12 Try.func132 rfl Try.ntmps132 rfl ?_
  refine cw_seq ?_
  refine cw_region ?_
  refine ss 1 rfl rfl (Ys_box (T := 158) (v := .agg #[.int .i64 a.Num.A, .int .i64 a.Num.B, .int .i64 a.Num.C, .int .i64 a.Num.D, .int .i64 a.Exp]) (cs := [.int .i64 a.Num.A, .int .i64 a.Num.B, .int .i64 a.Num.C, .int .i64 a.Num.D, .int .i64 a.Exp]) (m := 5) hS rfl rfl rfl rfl) ?_
  rintro _ w_ ⟨b, rfl, hS1⟩
  refine ss 2 rfl rfl (Ys_alloc (T := 91) (cs := [.int .i64 0, .int .i64 0, .int .i64 0, .int .i64 0, .int .i64 0]) (m := 5) hS1 k_zero_91 rfl rfl rfl) ?_
  rintro _ w_1 ⟨b1, rfl, hS2⟩
  have hS2 : ST w0 [] _ [⟨some ⟨b, 0, none⟩, 158, [.int .i64 a.Num.A, .int .i64 a.Num.B, .int .i64 a.Num.C, .int .i64 a.Num.D, .int .i64 a.Exp], 5⟩, ⟨some ⟨b1, 0, none⟩, 91, [.int .i64 0, .int .i64 0, .int .i64 0, .int .i64 0, .int .i64 0], 5⟩] [] := hS2
  refine rw_nil ?_
  refine cw_seq ?_
  refine cw_region ?_
  refine ss 3 rfl rfl (Ys_alloc (T := 91) (cs := [.int .i64 0, .int .i64 0, .int .i64 0, .int .i64 0, .int .i64 0]) (m := 5) hS2 k_zero_91 rfl rfl rfl) ?_
  rintro _ w_2 ⟨b2, rfl, hS3⟩
  have hS3 : ST w0 [] _ [⟨some ⟨b, 0, none⟩, 158, [.int .i64 a.Num.A, .int .i64 a.Num.B, .int .i64 a.Num.C, .int .i64 a.Num.D, .int .i64 a.Exp], 5⟩, ⟨some ⟨b1, 0, none⟩, 91, [.int .i64 0, .int .i64 0, .int .i64 0, .int .i64 0, .int .i64 0], 5⟩, ⟨some ⟨b2, 0, none⟩, 91, [.int .i64 0, .int .i64 0, .int .i64 0, .int .i64 0, .int .i64 0], 5⟩] [] := hS3
  refine rw_nil ?_
  refine cw_seq ?_
  refine cw_region ?_
  refine sq 4 rfl rfl (Y_fieldAddr (B := some ⟨b, 0, none⟩) (i := 0) (s := 3) k_fd_158_0_0_156 k_sz_156_4 rfl rfl) ?_
  refine sq 5 rfl rfl (Y_loadA (B := some ⟨b, 0, none⟩) (i := 0) (cs := [.int .i64 a.Num.A, .int .i64 a.Num.B, .int .i64 a.Num.C, .int .i64 a.Num.D, .int .i64 a.Exp]) (vs := [.int .i64 a.Num.A, .int .i64 a.Num.B, .int .i64 a.Num.C, .int .i64 a.Num.D]) k_ag_156 k_sz_156_4 rfl rfl (hS3.cf (i := 0) rfl) rfl rfl) ?_
  obtain ⟨r_1, hc, hF⟩ := bind_inv hF
  refine sc 6 rfl rfl (Yc_func (g := 184) (vs := [.agg #[.int .i64 a.Num.A, .int .i64 a.Num.B, .int .i64 a.Num.C, .int .i64 a.Num.D]]) k_call_184 rfl (mc rfl mn) (c_laws_toRing a.Num _  (hS3.inn0 [] rfl) hc)) ?_
  rintro _ w_3 ⟨rfl, hd⟩
  have hS4 := hS3.out00 hd
  have hS4 : ST w0 [] _ [⟨some ⟨b, 0, none⟩, 158, [.int .i64 a.Num.A, .int .i64 a.Num.B, .int .i64 a.Num.C, .int .i64 a.Num.D, .int .i64 a.Exp], 5⟩, ⟨some ⟨b1, 0, none⟩, 91, [.int .i64 0, .int .i64 0, .int .i64 0, .int .i64 0, .int .i64 0], 5⟩, ⟨some ⟨b2, 0, none⟩, 91, [.int .i64 0, .int .i64 0, .int .i64 0, .int .i64 0, .int .i64 0], 5⟩] [] := hS4
  refine sq 7 rfl rfl (Y_fieldAddr (B := some ⟨b2, 0, none⟩) (i := 0) (s := 3) k_fd_91_0_0_89 k_sz_89_4 rfl rfl) ?_
  refine ss0 rfl rfl (Ys_store (i := 2) (s := 4) (B := some ⟨b2, 0, none⟩) (T' := 91) (v := .agg #[.int .i64 r_1.A, .int .i64 r_1.B, .int .i64 r_1.C, .int .i64 r_1.D]) (vs := [.int .i64 r_1.A, .int .i64 r_1.B, .int .i64 r_1.C, .int .i64 r_1.D]) (k := 0) (cs' := [.int .i64 r_1.A, .int .i64 r_1.B, .int .i64 r_1.C, .int .i64 r_1.D, .int .i64 0]) hS4 k_sz_89_4 rfl rfl rfl rfl rfl rfl rfl (Nat.le_of_ble_eq_true rfl) rfl rfl) ?_
  rintro _ w_4 ⟨rfl, hS5⟩
  have hS5 : ST w0 [] _ [⟨some ⟨b, 0, none⟩, 158, [.int .i64 a.Num.A, .int .i64 a.Num.B, .int .i64 a.Num.C, .int .i64 a.Num.D, .int .i64 a.Exp], 5⟩, ⟨some ⟨b1, 0, none⟩, 91, [.int .i64 0, .int .i64 0, .int .i64 0, .int .i64 0, .int .i64 0], 5⟩, ⟨some ⟨b2, 0, none⟩, 91, [.int .i64 r_1.A, .int .i64 r_1.B, .int .i64 r_1.C, .int .i64 r_1.D, .int .i64 0], 5⟩] [] := hS5
  refine rw_nil ?_
  refine cw_seq ?_
  refine cw_region ?_
  refine sq 8 rfl rfl (Y_fieldAddr (B := some ⟨b, 0, none⟩) (i := 0) (s := 0) k_fd_158_1_4_3 k_sz_3_1 rfl rfl) ?_
  refine sq 9 rfl rfl (Y_load1 (B := some ⟨b, 0, none⟩) (i := 4) (cs := [.int .i64 a.Num.A, .int .i64 a.Num.B, .int .i64 a.Num.C, .int .i64 a.Num.D, .int .i64 a.Exp]) (v := .int .i64 a.Exp) k_sc_3 rfl rfl (hS5.cf (i := 0) rfl) rfl) ?_
  refine sq 10 rfl rfl (Y_fieldAddr (B := some ⟨b2, 0, none⟩) (i := 0) (s := 0) k_fd_91_1_4_3 k_sz_3_1 rfl rfl) ?_
  refine ss0 rfl rfl (Ys_store (i := 2) (s := 1) (B := some ⟨b2, 0, none⟩) (T' := 91) (v := .int .i64 a.Exp) (vs := [.int .i64 a.Exp]) (k := 4) (cs' := [.int .i64 r_1.A, .int .i64 r_1.B, .int .i64 r_1.C, .int .i64 r_1.D, .int .i64 a.Exp]) hS5 k_sz_3_1 rfl rfl rfl rfl rfl rfl rfl (Nat.le_of_ble_eq_true rfl) rfl rfl) ?_
  rintro _ w_5 ⟨rfl, hS6⟩
  have hS6 : ST w0 [] _ [⟨some ⟨b, 0, none⟩, 158, [.int .i64 a.Num.A, .int .i64 a.Num.B, .int .i64 a.Num.C, .int .i64 a.Num.D, .int .i64 a.Exp], 5⟩, ⟨some ⟨b1, 0, none⟩, 91, [.int .i64 0, .int .i64 0, .int .i64 0, .int .i64 0, .int .i64 0], 5⟩, ⟨some ⟨b2, 0, none⟩, 91, [.int .i64 r_1.A, .int .i64 r_1.B, .int .i64 r_1.C, .int .i64 r_1.D, .int .i64 a.Exp], 5⟩] [] := hS6
  refine rw_nil ?_
  refine cw_seq ?_
  refine cw_region ?_
  refine sq 11 rfl rfl (Y_loadA (B := some ⟨b2, 0, none⟩) (i := 0) (cs := [.int .i64 r_1.A, .int .i64 r_1.B, .int .i64 r_1.C, .int .i64 r_1.D, .int .i64 a.Exp]) (vs := [.int .i64 r_1.A, .int .i64 r_1.B, .int .i64 r_1.C, .int .i64 r_1.D, .int .i64 a.Exp]) k_ag_91 k_sz_91_5 rfl rfl (hS6.cf (i := 2) rfl) rfl rfl) ?_
  refine ss0 rfl rfl (Ys_store (i := 1) (s := 5) (B := some ⟨b1, 0, none⟩) (T' := 91) (v := .agg #[.int .i64 r_1.A, .int .i64 r_1.B, .int .i64 r_1.C, .int .i64 r_1.D, .int .i64 a.Exp]) (vs := [.int .i64 r_1.A, .int .i64 r_1.B, .int .i64 r_1.C, .int .i64 r_1.D, .int .i64 a.Exp]) (k := 0) (cs' := [.int .i64 r_1.A, .int .i64 r_1.B, .int .i64 r_1.C, .int .i64 r_1.D, .int .i64 a.Exp]) hS6 k_sz_91_5 rfl rfl rfl rfl rfl rfl rfl (Nat.le_of_ble_eq_true rfl) rfl rfl) ?_
  rintro _ w_6 ⟨rfl, hS7⟩
  have hS7 : ST w0 [] _ [⟨some ⟨b, 0, none⟩, 158, [.int .i64 a.Num.A, .int .i64 a.Num.B, .int .i64 a.Num.C, .int .i64 a.Num.D, .int .i64 a.Exp], 5⟩, ⟨some ⟨b1, 0, none⟩, 91, [.int .i64 r_1.A, .int .i64 r_1.B, .int .i64 r_1.C, .int .i64 r_1.D, .int .i64 a.Exp], 5⟩, ⟨some ⟨b2, 0, none⟩, 91, [.int .i64 r_1.A, .int .i64 r_1.B, .int .i64 r_1.C, .int .i64 r_1.D, .int .i64 a.Exp], 5⟩] [] := hS7
  refine rw_nil ?_
  refine cw_ret ?_
  obtain rfl := some_inj hF
  exact ret1 Try.results132 (v1 := .agg #[.int .i64 r_1.A, .int .i64 r_1.B, .int .i64 r_1.C, .int .i64 r_1.D, .int .i64 a.Exp]) (resAt_cellA (B := some ⟨b1, 0, none⟩) (i := 0) (cs := [.int .i64 r_1.A, .int .i64 r_1.B, .int .i64 r_1.C, .int .i64 r_1.D, .int .i64 a.Exp]) (vs := [.int .i64 r_1.A, .int .i64 r_1.B, .int .i64 r_1.C, .int .i64 r_1.D, .int .i64 a.Exp]) rfl k_ag_91 k_sz_91_5 (hS7.cf (i := 1) rfl) rfl rfl) ⟨rfl, (ST.subR (R' := []) (hS7.sel [] rfl rfl) (fun _ h => by cases h))⟩

theorem c_laws_toDyadicS (a : List TDyadic) (B : Option Addr) (c n : Nat) (w0 : World) (hn : a.length = n) (hS : ST w0 [] w0 [] [⟨B, (a.flatMap enc_Dyadic)⟩]) {r_ : List TDyadic} (hF : F_laws_toDyadicS a = some r_) :
    CV Try.prog 60 #[.slice B n c] w0 (fun v w' => ∃ (B1 : Option Addr) (c1 : Nat), v = .slice B1 r_.length c1 ∧ ST w0 [] w' [⟨B1, 91, (r_.flatMap enc_Dyadic), c1 * 5⟩] []) := by
  subst hn
  unfold F_laws_toDyadicS at hF
  refine cv_of_cw 23 Try.func60 rfl Try.ntmps60 rfl ?_
  refine cw_seq ?_
  refine cw_region ?_
  refine sq 2 rfl rfl (Y_assign (v := .slice none 0 0) rfl rfl) ?_
  refine rw_nil ?_
  refine cw_seq ?_
  refine cw_region ?_
  refine sq 5 rfl rfl (Y_move (v := .slice B a.length c) rfl rfl) ?_
  refine sq 6 rfl rfl (Y_len (B := B) (m := a.length) (c := c) k_sl_22_158 rfl rfl) ?_
  obtain ⟨hmk, hF⟩ := chk_inv hF
  refine ss 7 rfl rfl (Ys_make (s := 5) (by' := 40) (nn := a.length) (a := (a.length : Int)) (b := (a.length : Int)) (cs := ((List.replicate a.length (TDyadic.mk (TRing.mk 0 0 0 0) 0)).flatMap enc_Dyadic)) hS k_sl_27_91 k_sz_91_5 k_by_91_40 k_zero_91 rfl rfl rfl rfl hmk.1 rfl (by have := hmk; omega) (by have := hmk; omega) (by omega) (fm_rep (enc := enc_Dyadic) (d := (TDyadic.mk (TRing.mk 0 0 0 0) 0)) rfl _)) ?_
  rintro _ w_ ⟨b, rfl, hS1⟩
  refine sq 3 rfl rfl (Y_assign (v := .slice (some ⟨b, 0, none⟩) a.length a.length) rfl rfl) ?_
  refine rw_nil ?_
  refine cw_seq ?_
  refine cw_seq ?_
  refine cw_region ?_
  refine sq 4 rfl rfl (Y_assign (v := .int .i64 0) rfl rfl) ?_
  refine rw_nil ?_
  obtain ⟨hN, hF⟩ := chk_inv hF
  obtain ⟨z, hz, hF1⟩ := bind_inv hF
  refine cw_block ?_
  refine cw_loop (fun k f w => ∃ (i1 : Nat) (out : List TDyadic), FF f [(0, .slice B a.length c), (3, .slice (some ⟨b, 0, none⟩) a.length a.length), (4, .int .i64 (i1 : Int))] ∧ out.length = a.length ∧ ST w0 [] w [⟨some ⟨b, 0, none⟩, 91, (out.flatMap enc_Dyadic), a.length * 5⟩] [⟨B, (a.flatMap enc_Dyadic)⟩] ∧ i1 + k = a.length ∧ forN (F_laws_toDyadicS_l1 a) k i1 out = some z) a.length ⟨0, (List.replicate a.length (TDyadic.mk (TRing.mk 0 0 0 0) 0)), (FF.cons rfl (FF.cons rfl (FF.cons rfl FF.nil))), List.length_replicate, (hS1.sel [0] rfl rfl), Nat.zero_add _, hz⟩ ?_
  rintro k_ f w ⟨i1, out, hf, hl, hS2, hik, hL⟩
  refine cw_seq ?_
  refine cw_seq ?_
  refine cw_region ?_
  refine sq 8 rfl rfl (Y_move (v := .int .i64 (i1 : Int)) rfl (hf.get 4 2 rfl)) ?_
  refine sq 9 rfl rfl (Y_move (v := .slice B a.length c) rfl (hf.get 0 0 rfl)) ?_
  refine sq 10 rfl rfl (Y_len (B := B) (m := a.length) (c := c) k_sl_22_158 rfl rfl) ?_
  refine sq 11 rfl rfl (Y_lt (k := .i64) (a := (i1 : Int)) (b := (a.length : Int)) rfl rfl rfl) ?_
  refine rw_nil ?_
  refine cw_cond (b := (decide ((i1 : Int) < (a.length : Int)))) rfl (fun hlt => ?_) (fun hlt => ?_)
  · skip
    have hlt1 : i1 < a.length := by have h := of_decide_eq_true hlt; omega
    obtain ⟨k_1, rfl⟩ : ∃ k2, k_ = k2 + 1 := ⟨k_ - 1, by omega⟩
    obtain ⟨y, hb, hL1⟩ := forN_go hL
    unfold F_laws_toDyadicS_l1 at hb
    refine cw_skip ?_
    refine cw_seq ?_
    refine cw_block ?_
    refine cw_region ?_
    refine sq 14 rfl rfl (Y_move (v := .slice (some ⟨b, 0, none⟩) a.length a.length) rfl (hf.get 3 1 rfl)) ?_
    refine sq 15 rfl rfl (Y_move (v := .int .i64 (i1 : Int)) rfl (hf.get 4 2 rfl)) ?_
    refine sq 16 rfl rfl (Y_move (v := .slice B a.length c) rfl (hf.get 0 0 rfl)) ?_
    refine sq 17 rfl rfl (Y_move (v := .int .i64 (i1 : Int)) rfl (hf.get 4 2 rfl)) ?_
    obtain ⟨x, hx, hb⟩ := bind_inv hb
    refine sq 18 rfl rfl (Y_index (B := B) (m := a.length) (c := c) (k := .i64) (i := (i1 : Int)) k_sl_22_158 k_sz_158_5 rfl rfl rfl (gi_isSome enc_Dyadic_len rfl (hS2.rf (i := 0) rfl) hx) (getI_nn hx) (getI_ltI hx rfl)) ?_
    refine sq 19 rfl rfl (Y_loadA (B := B) (i := (i1 : Int).toNat * 5) (cs := (a.flatMap enc_Dyadic)) (vs := [.int .i64 x.Num.A, .int .i64 x.Num.B, .int .i64 x.Num.C, .int .i64 x.Num.D, .int .i64 x.Exp]) k_ag_158 k_sz_158_5 rfl rfl (hS2.rf (i := 0) rfl) (enc_Dyadic_len x) (gi_seg enc_Dyadic_len hx)) ?_
    obtain ⟨r_1, hc, hb⟩ := bind_inv hb
    refine sc 20 rfl rfl (Yc_func (g := 132) (vs := [.agg #[.int .i64 x.Num.A, .int .i64 x.Num.B, .int .i64 x.Num.C, .int .i64 x.Num.D, .int .i64 x.Exp]]) k_call_132 rfl (mc rfl mn) (c_laws_toDyadic x _  (hS2.inn0 [] rfl) hc)) ?_
    rintro _ w_1 ⟨rfl, hd⟩
    have hS3 := hS2.out00 hd
    obtain ⟨x1, hx1, hb⟩ := bind_inv hb
    refine sq 21 rfl rfl (Y_index (B := some ⟨b, 0, none⟩) (m := a.length) (c := a.length) (k := .i64) (i := (i1 : Int)) k_sl_27_91 k_sz_91_5 rfl rfl rfl (gi_isSome enc_Dyadic_len rfl (hS3.cf (i := 0) rfl) hx1) (getI_nn hx1) (getI_ltI hx1 hl)) ?_
    refine ss0 rfl rfl (Ys_store (i := 0) (s := 5) (B := some ⟨b, 0, none⟩) (T' := 91) (v := .agg #[.int .i64 r_1.Num.A, .int .i64 r_1.Num.B, .int .i64 r_1.Num.C, .int .i64 r_1.Num.D, .int .i64 r_1.Exp]) (vs := [.int .i64 r_1.Num.A, .int .i64 r_1.Num.B, .int .i64 r_1.Num.C, .int .i64 r_1.Num.D, .int .i64 r_1.Exp]) (k := (i1 : Int).toNat * 5) (cs' := ((out.set (i1 : Int).toNat r_1).flatMap enc_Dyadic)) hS3 k_sz_91_5 rfl rfl rfl rfl rfl rfl rfl (gi_fit0 enc_Dyadic_len hx1) (gi_set enc_Dyadic_len hx1 r_1 rfl) rfl) ?_
    rintro _ w_2 ⟨rfl, hS4⟩
    refine rw_nil ?_
    refine cw_region ?_
    refine sq 12 rfl rfl (Y_move (v := .int .i64 (i1 : Int)) rfl (hf.get 4 2 rfl)) ?_
    refine sq 13 rfl rfl (Y_add (k := .i64) (a := (i1 : Int)) (b := 1) rfl rfl rfl) ?_
    refine sq 4 rfl rfl (Y_assign (v := .int .i64 (IntKind.i64.wrap ((i1 : Int) + 1))) rfl rfl) ?_
    refine rw_nil ?_
    obtain rfl := some_inj hb
    exact ⟨k_1, Nat.lt_succ_self _, i1 + 1, (out.set (i1 : Int).toNat r_1), (FF.cons (hf.get 0 0 rfl) (FF.cons (hf.get 3 1 rfl) (FF.cons (congrArg (Value.int .i64) (wr_succ hlt1 hN)) FF.nil))), (set_len _ _ _ hl), (hS4.sel [0] rfl rfl), (by omega), hL1⟩
  · skip
    obtain rfl : k_ = 0 := by have h := of_decide_eq_false hlt; omega
    refine cw_exit rfl ?_
    obtain rfl := some_inj hL
    refine cw_seq ?_
    refine cw_region ?_
    refine sq 22 rfl rfl (Y_move (v := .slice (some ⟨b, 0, none⟩) a.length a.length) rfl (hf.get 3 1 rfl)) ?_
    refine sq 2 rfl rfl (Y_assign (v := .slice (some ⟨b, 0, none⟩) a.length a.length) rfl rfl) ?_
    refine rw_nil ?_
    refine cw_ret ?_
    obtain rfl := some_inj hF1
    exact ret1 Try.results60 (v1 := .slice (some ⟨b, 0, none⟩) a.length a.length) (resAt_tmp rfl) ⟨some ⟨b, 0, none⟩, a.length, (by simp [hl]), (ST.subR (R' := []) (hS2.sel [0] rfl rfl) (fun _ h => by cases h))⟩

theorem c_laws_toMatrix (a : TMatrix) (B : Option Addr) (c n : Nat) (w0 : World) (hn : a.Cells.length = n) (hS : ST w0 [] w0 [] [⟨B, (a.Cells.flatMap enc_Dyadic)⟩]) {r_ : TMatrix} (hF : F_laws_toMatrix a = some r_) :
    CV Try.prog 36 #[.agg #[.int .i64 a.Rows, .int .i64 a.Cols, .slice B n c]] w0 (fun v w' => ∃ (B1 : Option Addr) (c1 : Nat), v = .agg #[.int .i64 r_.Rows, .int .i64 r_.Cols, .slice B1 r_.Cells.length c1] ∧ ST w0 [] w' [⟨B1, 91, (r_.Cells.flatMap enc_Dyadic), c1 * 5⟩] []) := by
  subst hn
  unfold F_laws_toMatrix at hF
  refine cv_of_cw 15 Try.func36 rfl Try.ntmps36 rfl ?_
  refine cw_seq ?_
  refine cw_region ?_
  refine ss 1 rfl rfl (Ys_box (T := 58) (v := .agg #[.int .i64 a.Rows, .int .i64 a.Cols, .slice B a.Cells.length c]) (cs := [.int .i64 a.Rows, .int .i64 a.Cols, .slice B a.Cells.length c]) (m := 3) hS rfl rfl rfl rfl) ?_
  rintro _ w_ ⟨b, rfl, hS1⟩
  refine ss 2 rfl rfl (Ys_alloc (T := 62) (cs := [.int .i64 0, .int .i64 0, .slice none 0 0]) (m := 3) hS1 k_zero_62 rfl rfl rfl) ?_
  rintro _ w_1 ⟨b1, rfl, hS2⟩
  have hS2 : ST w0 [] _ [⟨some ⟨b, 0, none⟩, 58, [.int .i64 a.Rows, .int .i64 a.Cols, .slice B a.Cells.length c], 3⟩, ⟨some ⟨b1, 0, none⟩, 62, [.int .i64 0, .int .i64 0, .slice none 0 0], 3⟩] [⟨B, (a.Cells.flatMap enc_Dyadic)⟩] := hS2
  refine rw_nil ?_
  refine cw_seq ?_
  refine cw_region ?_
  refine ss 3 rfl rfl (Ys_alloc (T := 62) (cs := [.int .i64 0, .int .i64 0, .slice none 0 0]) (m := 3) hS2 k_zero_62 rfl rfl rfl) ?_
  rintro _ w_2 ⟨b2, rfl, hS3⟩
  have hS3 : ST w0 [] _ [⟨some ⟨b, 0, none⟩, 58, [.int .i64 a.Rows, .int .i64 a.Cols, .slice B a.Cells.length c], 3⟩, ⟨some ⟨b1, 0, none⟩, 62, [.int .i64 0, .int .i64 0, .slice none 0 0], 3⟩, ⟨some ⟨b2, 0, none⟩, 62, [.int .i64 0, .int .i64 0, .slice none 0 0], 3⟩] [⟨B, (a.Cells.flatMap enc_Dyadic)⟩] := hS3
  refine rw_nil ?_
  refine cw_seq ?_
  refine cw_region ?_
  refine sq 4 rfl rfl (Y_fieldAddr (B := some ⟨b, 0, none⟩) (i := 0) (s := 0) k_fd_58_0_0_3 k_sz_3_1 rfl rfl) ?_
  refine sq 5 rfl rfl (Y_load1 (B := some ⟨b, 0, none⟩) (i := 0) (cs := [.int .i64 a.Rows, .int .i64 a.Cols, .slice B a.Cells.length c]) (v := .int .i64 a.Rows) k_sc_3 rfl rfl (hS3.cf (i := 0) rfl) rfl) ?_
  refine sq 6 rfl rfl (Y_fieldAddr (B := some ⟨b2, 0, none⟩) (i := 0) (s := 0) k_fd_62_0_0_3 k_sz_3_1 rfl rfl) ?_
  refine ss0 rfl rfl (Ys_store (i := 2) (s := 1) (B := some ⟨b2, 0, none⟩) (T' := 62) (v := .int .i64 a.Rows) (vs := [.int .i64 a.Rows]) (k := 0) (cs' := [.int .i64 a.Rows, .int .i64 0, .slice none 0 0]) hS3 k_sz_3_1 rfl rfl rfl rfl rfl rfl rfl (Nat.le_of_ble_eq_true rfl) rfl rfl) ?_
  rintro _ w_3 ⟨rfl, hS4⟩
  have hS4 : ST w0 [] _ [⟨some ⟨b, 0, none⟩, 58, [.int .i64 a.Rows, .int .i64 a.Cols, .slice B a.Cells.length c], 3⟩, ⟨some ⟨b1, 0, none⟩, 62, [.int .i64 0, .int .i64 0, .slice none 0 0], 3⟩, ⟨some ⟨b2, 0, none⟩, 62, [.int .i64 a.Rows, .int .i64 0, .slice none 0 0], 3⟩] [⟨B, (a.Cells.flatMap enc_Dyadic)⟩] := hS4
  refine rw_nil ?_
  refine cw_seq ?_
  refine cw_region ?_
  refine sq 7 rfl rfl (Y_fieldAddr (B := some ⟨b, 0, none⟩) (i := 0) (s := 0) k_fd_58_1_1_3 k_sz_3_1 rfl rfl) ?_
  refine sq 8 rfl rfl (Y_load1 (B := some ⟨b, 0, none⟩) (i := 1) (cs := [.int .i64 a.Rows, .int .i64 a.Cols, .slice B a.Cells.length c]) (v := .int .i64 a.Cols) k_sc_3 rfl rfl (hS4.cf (i := 0) rfl) rfl) ?_
  refine sq 9 rfl rfl (Y_fieldAddr (B := some ⟨b2, 0, none⟩) (i := 0) (s := 0) k_fd_62_1_1_3 k_sz_3_1 rfl rfl) ?_
  refine ss0 rfl rfl (Ys_store (i := 2) (s := 1) (B := some ⟨b2, 0, none⟩) (T' := 62) (v := .int .i64 a.Cols) (vs := [.int .i64 a.Cols]) (k := 1) (cs' := [.int .i64 a.Rows, .int .i64 a.Cols, .slice none 0 0]) hS4 k_sz_3_1 rfl rfl rfl rfl rfl rfl rfl (Nat.le_of_ble_eq_true rfl) rfl rfl) ?_
  rintro _ w_4 ⟨rfl, hS5⟩
  have hS5 : ST w0 [] _ [⟨some ⟨b, 0, none⟩, 58, [.int .i64 a.Rows, .int .i64 a.Cols, .slice B a.Cells.length c], 3⟩, ⟨some ⟨b1, 0, none⟩, 62, [.int .i64 0, .int .i64 0, .slice none 0 0], 3⟩, ⟨some ⟨b2, 0, none⟩, 62, [.int .i64 a.Rows, .int .i64 a.Cols, .slice none 0 0], 3⟩] [⟨B, (a.Cells.flatMap enc_Dyadic)⟩] := hS5
  refine rw_nil ?_
  refine cw_seq ?_
  refine cw_region ?_
  refine sq 10 rfl rfl (Y_fieldAddr (B := some ⟨b, 0, none⟩) (i := 0) (s := 0) k_fd_58_2_2_22 k_sz_22_1 rfl rfl) ?_
  refine sq 11 rfl rfl (Y_load1 (B := some ⟨b, 0, none⟩) (i := 2) (cs := [.int .i64 a.Rows, .int .i64 a.Cols, .slice B a.Cells.length c]) (v := .slice B a.Cells.length c) k_sc_22 rfl rfl (hS5.cf (i := 0) rfl) rfl) ?_
  obtain ⟨r_1, hc, hF⟩ := bind_inv hF
  refine sc 12 rfl rfl (Yc_func (g := 60) (vs := [.slice B a.Cells.length c]) k_call_60 rfl (mc rfl mn) (c_laws_toDyadicS a.Cells B c a.Cells.length _ rfl (hS5.inn0 [(true, 0)] rfl) hc)) ?_
  rintro _ w_5 ⟨B2, c2, rfl, hd⟩
  have hS6 := hS5.out0 hd
  have hS6 : ST w0 [] _ [⟨some ⟨b, 0, none⟩, 58, [.int .i64 a.Rows, .int .i64 a.Cols, .slice B a.Cells.length c], 3⟩, ⟨some ⟨b1, 0, none⟩, 62, [.int .i64 0, .int .i64 0, .slice none 0 0], 3⟩, ⟨some ⟨b2, 0, none⟩, 62, [.int .i64 a.Rows, .int .i64 a.Cols, .slice none 0 0], 3⟩, ⟨B2, 91, (r_1.flatMap enc_Dyadic), c2 * 5⟩] [⟨B, (a.Cells.flatMap enc_Dyadic)⟩] := hS6
  refine sq 13 rfl rfl (Y_fieldAddr (B := some ⟨b2, 0, none⟩) (i := 0) (s := 0) k_fd_62_2_2_27 k_sz_27_1 rfl rfl) ?_
  refine ss0 rfl rfl (Ys_store (i := 2) (s := 1) (B := some ⟨b2, 0, none⟩) (T' := 62) (v := .slice B2 r_1.length c2) (vs := [.slice B2 r_1.length c2]) (k := 2) (cs' := [.int .i64 a.Rows, .int .i64 a.Cols, .slice B2 r_1.length c2]) hS6 k_sz_27_1 rfl rfl rfl rfl rfl rfl rfl (Nat.le_of_ble_eq_true rfl) rfl rfl) ?_
  rintro _ w_6 ⟨rfl, hS7⟩
  have hS7 : ST w0 [] _ [⟨some ⟨b, 0, none⟩, 58, [.int .i64 a.Rows, .int .i64 a.Cols, .slice B a.Cells.length c], 3⟩, ⟨some ⟨b1, 0, none⟩, 62, [.int .i64 0, .int .i64 0, .slice none 0 0], 3⟩, ⟨some ⟨b2, 0, none⟩, 62, [.int .i64 a.Rows, .int .i64 a.Cols, .slice B2 r_1.length c2], 3⟩, ⟨B2, 91, (r_1.flatMap enc_Dyadic), c2 * 5⟩] [⟨B, (a.Cells.flatMap enc_Dyadic)⟩] := hS7
  refine rw_nil ?_
  refine cw_seq ?_
  refine cw_region ?_
  refine sq 14 rfl rfl (Y_loadA (B := some ⟨b2, 0, none⟩) (i := 0) (cs := [.int .i64 a.Rows, .int .i64 a.Cols, .slice B2 r_1.length c2]) (vs := [.int .i64 a.Rows, .int .i64 a.Cols, .slice B2 r_1.length c2]) k_ag_62 k_sz_62_3 rfl rfl (hS7.cf (i := 2) rfl) rfl rfl) ?_
  refine ss0 rfl rfl (Ys_store (i := 1) (s := 3) (B := some ⟨b1, 0, none⟩) (T' := 62) (v := .agg #[.int .i64 a.Rows, .int .i64 a.Cols, .slice B2 r_1.length c2]) (vs := [.int .i64 a.Rows, .int .i64 a.Cols, .slice B2 r_1.length c2]) (k := 0) (cs' := [.int .i64 a.Rows, .int .i64 a.Cols, .slice B2 r_1.length c2]) hS7 k_sz_62_3 rfl rfl rfl rfl rfl rfl rfl (Nat.le_of_ble_eq_true rfl) rfl rfl) ?_
  rintro _ w_7 ⟨rfl, hS8⟩
  have hS8 : ST w0 [] _ [⟨some ⟨b, 0, none⟩, 58, [.int .i64 a.Rows, .int .i64 a.Cols, .slice B a.Cells.length c], 3⟩, ⟨some ⟨b1, 0, none⟩, 62, [.int .i64 a.Rows, .int .i64 a.Cols, .slice B2 r_1.length c2], 3⟩, ⟨some ⟨b2, 0, none⟩, 62, [.int .i64 a.Rows, .int .i64 a.Cols, .slice B2 r_1.length c2], 3⟩, ⟨B2, 91, (r_1.flatMap enc_Dyadic), c2 * 5⟩] [⟨B, (a.Cells.flatMap enc_Dyadic)⟩] := hS8
  refine rw_nil ?_
  refine cw_ret ?_
  obtain rfl := some_inj hF
  exact ret1 Try.results36 (v1 := .agg #[.int .i64 a.Rows, .int .i64 a.Cols, .slice B2 r_1.length c2]) (resAt_cellA (B := some ⟨b1, 0, none⟩) (i := 0) (cs := [.int .i64 a.Rows, .int .i64 a.Cols, .slice B2 r_1.length c2]) (vs := [.int .i64 a.Rows, .int .i64 a.Cols, .slice B2 r_1.length c2]) rfl k_ag_62 k_sz_62_3 (hS8.cf (i := 1) rfl) rfl rfl) ⟨B2, c2, rfl, (ST.subR (R' := []) (hS8.sel [3] rfl rfl) (fun _ h => by cases h))⟩

theorem c_laws_eqRing (a : TRing) (b : TRing)  (w0 : World)  (hS : ST w0 [] w0 [] []) {r_ : Bool} (hF : F_laws_eqRing a b = some r_) :
    CV Try.prog 190 #[.agg #[.int .i64 a.A, .int .i64 a.B, .int .i64 a.C, .int .i64 a.D], .agg #[.int .i64 b.A, .int .i64 b.B, .int .i64 b.C, .int .i64 b.D]] w0 (fun v w' => v = .bool r_ ∧ ST w0 [] w' [] []) := by
  unfold F_laws_eqRing at hF
  refine cv_of_cw 25 Try.func190 rfl Try.ntmps190 rfl ?_
  refine cw_seq ?_
  refine cw_region ?_
  refine ss 2 rfl rfl (Ys_box (T := 89) (v := .agg #[.int .i64 a.A, .int .i64 a.B, .int .i64 a.C, .int .i64 a.D]) (cs := [.int .i64 a.A, .int .i64 a.B, .int .i64 a.C, .int .i64 a.D]) (m := 4) hS rfl rfl rfl rfl) ?_
  rintro _ w_ ⟨b1, rfl, hS1⟩
  refine ss 3 rfl rfl (Ys_box (T := 89) (v := .agg #[.int .i64 b.A, .int .i64 b.B, .int .i64 b.C, .int .i64 b.D]) (cs := [.int .i64 b.A, .int .i64 b.B, .int .i64 b.C, .int .i64 b.D]) (m := 4) hS1 rfl rfl rfl rfl) ?_
  rintro _ w_1 ⟨b2, rfl, hS2⟩
  have hS2 : ST w0 [] _ [⟨some ⟨b1, 0, none⟩, 89, [.int .i64 a.A, .int .i64 a.B, .int .i64 a.C, .int .i64 a.D], 4⟩, ⟨some ⟨b2, 0, none⟩, 89, [.int .i64 b.A, .int .i64 b.B, .int .i64 b.C, .int .i64 b.D], 4⟩] [] := hS2
  refine sq 4 rfl rfl (Y_assign (v := .bool false) rfl rfl) ?_
  refine rw_nil ?_
  refine cw_seq ?_
  refine cw_seq ?_
  refine cw_region ?_
  refine sq 5 rfl rfl (Y_fieldAddr (B := some ⟨b1, 0, none⟩) (i := 0) (s := 0) k_fd_89_0_0_3 k_sz_3_1 rfl rfl) ?_
  refine sq 6 rfl rfl (Y_load1 (B := some ⟨b1, 0, none⟩) (i := 0) (cs := [.int .i64 a.A, .int .i64 a.B, .int .i64 a.C, .int .i64 a.D]) (v := .int .i64 a.A) k_sc_3 rfl rfl (hS2.cf (i := 0) rfl) rfl) ?_
  refine sq 7 rfl rfl (Y_fieldAddr (B := some ⟨b2, 0, none⟩) (i := 0) (s := 0) k_fd_89_0_0_3 k_sz_3_1 rfl rfl) ?_
  refine sq 8 rfl rfl (Y_load1 (B := some ⟨b2, 0, none⟩) (i := 0) (cs := [.int .i64 b.A, .int .i64 b.B, .int .i64 b.C, .int .i64 b.D]) (v := .int .i64 b.A) k_sc_3 rfl rfl (hS2.cf (i := 1) rfl) rfl) ?_
  refine sq 9 rfl rfl (Y_ne (k := .i64) (a := a.A) (b := b.A) rfl rfl rfl) ?_
  refine rw_nil ?_
  refine cw_cond (b := (a.A != b.A)) rfl (fun hb => ?_) (fun hb => ?_)
  · skip
    have hF1 := ct hF hb
    refine cw_seq ?_
    refine cw_region ?_
    refine sq 4 rfl rfl (Y_assign (v := .bool false) rfl rfl) ?_
    refine rw_nil ?_
    refine cw_ret ?_
    obtain rfl := some_inj hF1
    exact ret1 Try.results190 (v1 := .bool false) (resAt_tmp rfl) ⟨rfl, (ST.subR (R' := []) (hS2.sel [] rfl rfl) (fun _ h => by cases h))⟩
  · skip
    have hF2 := cf' hF hb
    refine cw_skip ?_
    refine cw_seq ?_
    refine cw_seq ?_
    refine cw_region ?_
    refine sq 10 rfl rfl (Y_fieldAddr (B := some ⟨b1, 0, none⟩) (i := 0) (s := 0) k_fd_89_1_1_3 k_sz_3_1 rfl rfl) ?_
    refine sq 11 rfl rfl (Y_load1 (B := some ⟨b1, 0, none⟩) (i := 1) (cs := [.int .i64 a.A, .int .i64 a.B, .int .i64 a.C, .int .i64 a.D]) (v := .int .i64 a.B) k_sc_3 rfl rfl (hS2.cf (i := 0) rfl) rfl) ?_
    refine sq 12 rfl rfl (Y_fieldAddr (B := some ⟨b2, 0, none⟩) (i := 0) (s := 0) k_fd_89_1_1_3 k_sz_3_1 rfl rfl) ?_
    refine sq 13 rfl rfl (Y_load1 (B := some ⟨b2, 0, none⟩) (i := 1) (cs := [.int .i64 b.A, .int .i64 b.B, .int .i64 b.C, .int .i64 b.D]) (v := .int .i64 b.B) k_sc_3 rfl rfl (hS2.cf (i := 1) rfl) rfl) ?_
    refine sq 14 rfl rfl (Y_ne (k := .i64) (a := a.B) (b := b.B) rfl rfl rfl) ?_
    refine rw_nil ?_
    refine cw_cond (b := (a.B != b.B)) rfl (fun hb1 => ?_) (fun hb1 => ?_)
    · skip
      have hF3 := ct hF2 hb1
      refine cw_seq ?_
      refine cw_region ?_
      refine sq 4 rfl rfl (Y_assign (v := .bool false) rfl rfl) ?_
      refine rw_nil ?_
      refine cw_ret ?_
      obtain rfl := some_inj hF3
      exact ret1 Try.results190 (v1 := .bool false) (resAt_tmp rfl) ⟨rfl, (ST.subR (R' := []) (hS2.sel [] rfl rfl) (fun _ h => by cases h))⟩
    · skip
      have hF4 := cf' hF2 hb1
      refine cw_skip ?_
      refine cw_seq ?_
      refine cw_seq ?_
      refine cw_region ?_
      refine sq 15 rfl rfl (Y_fieldAddr (B := some ⟨b1, 0, none⟩) (i := 0) (s := 0) k_fd_89_2_2_3 k_sz_3_1 rfl rfl) ?_
      refine sq 16 rfl rfl (Y_load1 (B := some ⟨b1, 0, none⟩) (i := 2) (cs := [.int .i64 a.A, .int .i64 a.B, .int .i64 a.C, .int .i64 a.D]) (v := .int .i64 a.C) k_sc_3 rfl rfl (hS2.cf (i := 0) rfl) rfl) ?_
      refine sq 17 rfl rfl (Y_fieldAddr (B := some ⟨b2, 0, none⟩) (i := 0) (s := 0) k_fd_89_2_2_3 k_sz_3_1 rfl rfl) ?_
      refine sq 18 rfl rfl (Y_load1 (B := some ⟨b2, 0, none⟩) (i := 2) (cs := [.int .i64 b.A, .int .i64 b.B, .int .i64 b.C, .int .i64 b.D]) (v := .int .i64 b.C) k_sc_3 rfl rfl (hS2.cf (i := 1) rfl) rfl) ?_
      refine sq 19 rfl rfl (Y_ne (k := .i64) (a := a.C) (b := b.C) rfl rfl rfl) ?_
      refine rw_nil ?_
      refine cw_cond (b := (a.C != b.C)) rfl (fun hb2 => ?_) (fun hb2 => ?_)
      · skip
        have hF5 := ct hF4 hb2
        refine cw_seq ?_
        refine cw_region ?_
        refine sq 4 rfl rfl (Y_assign (v := .bool false) rfl rfl) ?_
        refine rw_nil ?_
        refine cw_ret ?_
        obtain rfl := some_inj hF5
        exact ret1 Try.results190 (v1 := .bool false) (resAt_tmp rfl) ⟨rfl, (ST.subR (R' := []) (hS2.sel [] rfl rfl) (fun _ h => by cases h))⟩
      · skip
        have hF6 := cf' hF4 hb2
        refine cw_skip ?_
        refine cw_seq ?_
        refine cw_seq ?_
        refine cw_region ?_
        refine sq 20 rfl rfl (Y_fieldAddr (B := some ⟨b1, 0, none⟩) (i := 0) (s := 0) k_fd_89_3_3_3 k_sz_3_1 rfl rfl) ?_
        refine sq 21 rfl rfl (Y_load1 (B := some ⟨b1, 0, none⟩) (i := 3) (cs := [.int .i64 a.A, .int .i64 a.B, .int .i64 a.C, .int .i64 a.D]) (v := .int .i64 a.D) k_sc_3 rfl rfl (hS2.cf (i := 0) rfl) rfl) ?_
        refine sq 22 rfl rfl (Y_fieldAddr (B := some ⟨b2, 0, none⟩) (i := 0) (s := 0) k_fd_89_3_3_3 k_sz_3_1 rfl rfl) ?_
        refine sq 23 rfl rfl (Y_load1 (B := some ⟨b2, 0, none⟩) (i := 3) (cs := [.int .i64 b.A, .int .i64 b.B, .int .i64 b.C, .int .i64 b.D]) (v := .int .i64 b.D) k_sc_3 rfl rfl (hS2.cf (i := 1) rfl) rfl) ?_
        refine sq 24 rfl rfl (Y_ne (k := .i64) (a := a.D) (b := b.D) rfl rfl rfl) ?_
        refine rw_nil ?_
        refine cw_cond (b := (a.D != b.D)) rfl (fun hb3 => ?_) (fun hb3 => ?_)
        · skip
          have hF7 := ct hF6 hb3
          refine cw_seq ?_
          refine cw_region ?_
          refine sq 4 rfl rfl (Y_assign (v := .bool false) rfl rfl) ?_
          refine rw_nil ?_
          refine cw_ret ?_
          obtain rfl := some_inj hF7
          exact ret1 Try.results190 (v1 := .bool false) (resAt_tmp rfl) ⟨rfl, (ST.subR (R' := []) (hS2.sel [] rfl rfl) (fun _ h => by cases h))⟩
        · skip
          have hF8 := cf' hF6 hb3
          refine cw_skip ?_
          refine cw_seq ?_
          refine cw_region ?_
          refine sq 4 rfl rfl (Y_assign (v := .bool true) rfl rfl) ?_
          refine rw_nil ?_
          refine cw_ret ?_
          obtain rfl := some_inj hF8
          exact ret1 Try.results190 (v1 := .bool true) (resAt_tmp rfl) ⟨rfl, (ST.subR (R' := []) (hS2.sel [] rfl rfl) (fun _ h => by cases h))⟩

theorem c_laws_eqDyadic (a : TDyadic) (b : TDyadic)  (w0 : World)  (hS : ST w0 [] w0 [] []) {r_ : Bool} (hF : F_laws_eqDyadic a b = some r_) :
    CV Try.prog 138 #[.agg #[.int .i64 a.Num.A, .int .i64 a.Num.B, .int .i64 a.Num.C, .int .i64 a.Num.D, .int .i64 a.Exp], .agg #[.int .i64 b.Num.A, .int .i64 b.Num.B, .int .i64 b.Num.C, .int .i64 b.Num.D, .int .i64 b.Exp]] w0 (fun v w' => v = .bool r_ ∧ ST w0 [] w' [] []) := by
  unfold F_laws_eqDyadic at hF
  refine cv_of_cw 16 Try.func138 rfl Try.ntmps138 rfl ?_
  refine cw_seq ?_
  refine cw_region ?_
  refine ss 2 rfl rfl (Ys_box (T := 91) (v := .agg #[.int .i64 a.Num.A, .int .i64 a.Num.B, .int .i64 a.Num.C, .int .i64 a.Num.D, .int .i64 a.Exp]) (cs := [.int .i64 a.Num.A, .int .i64 a.Num.B, .int .i64 a.Num.C, .int .i64 a.Num.D, .int .i64 a.Exp]) (m := 5) hS rfl rfl rfl rfl) ?_
  rintro _ w_ ⟨b1, rfl, hS1⟩
  refine ss 3 rfl rfl (Ys_box (T := 91) (v := .agg #[.int .i64 b.Num.A, .int .i64 b.Num.B, .int .i64 b.Num.C, .int .i64 b.Num.D, .int .i64 b.Exp]) (cs := [.int .i64 b.Num.A, .int .i64 b.Num.B, .int .i64 b.Num.C, .int .i64 b.Num.D, .int .i64 b.Exp]) (m := 5) hS1 rfl rfl rfl rfl) ?_
  rintro _ w_1 ⟨b2, rfl, hS2⟩
  have hS2 : ST w0 [] _ [⟨some ⟨b1, 0, none⟩, 91, [.int .i64 a.Num.A, .int .i64 a.Num.B, .int .i64 a.Num.C, .int .i64 a.Num.D, .int .i64 a.Exp], 5⟩, ⟨some ⟨b2, 0, none⟩, 91, [.int .i64 b.Num.A, .int .i64 b.Num.B, .int .i64 b.Num.C, .int .i64 b.Num.D, .int .i64 b.Exp], 5⟩] [] := hS2
  refine sq 4 rfl rfl (Y_assign (v := .bool false) rfl rfl) ?_
  refine rw_nil ?_
  refine cw_seq ?_
  refine cw_seq ?_
  refine cw_region ?_
  refine sq 5 rfl rfl (Y_fieldAddr (B := some ⟨b1, 0, none⟩) (i := 0) (s := 3) k_fd_91_0_0_89 k_sz_89_4 rfl rfl) ?_
  refine sq 6 rfl rfl (Y_loadA (B := some ⟨b1, 0, none⟩) (i := 0) (cs := [.int .i64 a.Num.A, .int .i64 a.Num.B, .int .i64 a.Num.C, .int .i64 a.Num.D, .int .i64 a.Exp]) (vs := [.int .i64 a.Num.A, .int .i64 a.Num.B, .int .i64 a.Num.C, .int .i64 a.Num.D]) k_ag_89 k_sz_89_4 rfl rfl (hS2.cf (i := 0) rfl) rfl rfl) ?_
  refine sq 7 rfl rfl (Y_fieldAddr (B := some ⟨b2, 0, none⟩) (i := 0) (s := 3) k_fd_91_0_0_89 k_sz_89_4 rfl rfl) ?_
  refine sq 8 rfl rfl (Y_loadA (B := some ⟨b2, 0, none⟩) (i := 0) (cs := [.int .i64 b.Num.A, .int .i64 b.Num.B, .int .i64 b.Num.C, .int .i64 b.Num.D, .int .i64 b.Exp]) (vs := [.int .i64 b.Num.A, .int .i64 b.Num.B, .int .i64 b.Num.C, .int .i64 b.Num.D]) k_ag_89 k_sz_89_4 rfl rfl (hS2.cf (i := 1) rfl) rfl rfl) ?_
  obtain ⟨r_1, hc, hF⟩ := bind_inv hF
  refine sc 9 rfl rfl (Yc_func (g := 190) (vs := [.agg #[.int .i64 a.Num.A, .int .i64 a.Num.B, .int .i64 a.Num.C, .int .i64 a.Num.D], .agg #[.int .i64 b.Num.A, .int .i64 b.Num.B, .int .i64 b.Num.C, .int .i64 b.Num.D]]) k_call_190 rfl (mc rfl (mc rfl mn)) (c_laws_eqRing a.Num b.Num _  (hS2.inn0 [] rfl) hc)) ?_
  rintro _ w_2 ⟨rfl, hd⟩
  have hS3 := hS2.out00 hd
  have hS3 : ST w0 [] _ [⟨some ⟨b1, 0, none⟩, 91, [.int .i64 a.Num.A, .int .i64 a.Num.B, .int .i64 a.Num.C, .int .i64 a.Num.D, .int .i64 a.Exp], 5⟩, ⟨some ⟨b2, 0, none⟩, 91, [.int .i64 b.Num.A, .int .i64 b.Num.B, .int .i64 b.Num.C, .int .i64 b.Num.D, .int .i64 b.Exp], 5⟩] [] := hS3
  refine sq 10 rfl rfl (Y_not (p := r_1) rfl rfl) ?_
  refine rw_nil ?_
  refine cw_cond (b := (!r_1)) rfl (fun hb => ?_) (fun hb => ?_)
  · skip
    have hF1 := ct hF hb
    refine cw_seq ?_
    refine cw_region ?_
    refine sq 4 rfl rfl (Y_assign (v := .bool false) rfl rfl) ?_
    refine rw_nil ?_
    refine cw_ret ?_
    obtain rfl := some_inj hF1
    exact ret1 Try.results138 (v1 := .bool false) (resAt_tmp rfl) ⟨rfl, (ST.subR (R' := []) (hS3.sel [] rfl rfl) (fun _ h => by cases h))⟩
  · skip
    have hF2 := cf' hF hb
    refine cw_skip ?_
    refine cw_seq ?_
    refine cw_seq ?_
    refine cw_region ?_
    refine sq 11 rfl rfl (Y_fieldAddr (B := some ⟨b1, 0, none⟩) (i := 0) (s := 0) k_fd_91_1_4_3 k_sz_3_1 rfl rfl) ?_
    refine sq 12 rfl rfl (Y_load1 (B := some ⟨b1, 0, none⟩) (i := 4) (cs := [.int .i64 a.Num.A, .int .i64 a.Num.B, .int .i64 a.Num.C, .int .i64 a.Num.D, .int .i64 a.Exp]) (v := .int .i64 a.Exp) k_sc_3 rfl rfl (hS3.cf (i := 0) rfl) rfl) ?_
    refine sq 13 rfl rfl (Y_fieldAddr (B := some ⟨b2, 0, none⟩) (i := 0) (s := 0) k_fd_91_1_4_3 k_sz_3_1 rfl rfl) ?_
    refine sq 14 rfl rfl (Y_load1 (B := some ⟨b2, 0, none⟩) (i := 4) (cs := [.int .i64 b.Num.A, .int .i64 b.Num.B, .int .i64 b.Num.C, .int .i64 b.Num.D, .int .i64 b.Exp]) (v := .int .i64 b.Exp) k_sc_3 rfl rfl (hS3.cf (i := 1) rfl) rfl) ?_
    refine sq 15 rfl rfl (Y_ne (k := .i64) (a := a.Exp) (b := b.Exp) rfl rfl rfl) ?_
    refine rw_nil ?_
    refine cw_cond (b := (a.Exp != b.Exp)) rfl (fun hb1 => ?_) (fun hb1 => ?_)
    · skip
      have hF3 := ct hF2 hb1
      refine cw_seq ?_
      refine cw_region ?_
      refine sq 4 rfl rfl (Y_assign (v := .bool false) rfl rfl) ?_
      refine rw_nil ?_
      refine cw_ret ?_
      obtain rfl := some_inj hF3
      exact ret1 Try.results138 (v1 := .bool false) (resAt_tmp rfl) ⟨rfl, (ST.subR (R' := []) (hS3.sel [] rfl rfl) (fun _ h => by cases h))⟩
    · skip
      have hF4 := cf' hF2 hb1
      refine cw_skip ?_
      refine cw_seq ?_
      refine cw_region ?_
      refine sq 4 rfl rfl (Y_assign (v := .bool true) rfl rfl) ?_
      refine rw_nil ?_
      refine cw_ret ?_
      obtain rfl := some_inj hF4
      exact ret1 Try.results138 (v1 := .bool true) (resAt_tmp rfl) ⟨rfl, (ST.subR (R' := []) (hS3.sel [] rfl rfl) (fun _ h => by cases h))⟩

theorem c_laws_eqDyadicS (a : List TDyadic) (b : List TDyadic) (B : Option Addr) (c n : Nat) (B1 : Option Addr) (c1 n1 : Nat) (w0 : World) (hn : a.length = n) (hn1 : b.length = n1) (hS : ST w0 [] w0 [] [⟨B, (a.flatMap enc_Dyadic)⟩, ⟨B1, (b.flatMap enc_Dyadic)⟩]) {r_ : Bool} (hF : F_laws_eqDyadicS a b = some r_) :
    CV Try.prog 69 #[.slice B n c, .slice B1 n1 c1] w0 (fun v w' => v = .bool r_ ∧ ST w0 [] w' [] []) := by
  subst hn
  subst hn1
  unfold F_laws_eqDyadicS at hF
  refine cv_of_cw 27 Try.func69 rfl Try.ntmps69 rfl ?_
  refine cw_seq ?_
  refine cw_region ?_
  refine sq 4 rfl rfl (Y_assign (v := .bool false) rfl rfl) ?_
  refine rw_nil ?_
  refine cw_seq ?_
  refine cw_seq ?_
  refine cw_region ?_
  refine sq 6 rfl rfl (Y_move (v := .slice B a.length c) rfl rfl) ?_
  refine sq 7 rfl rfl (Y_len (B := B) (m := a.length) (c := c) k_sl_27_91 rfl rfl) ?_
  refine sq 8 rfl rfl (Y_move (v := .slice B1 b.length c1) rfl rfl) ?_
  refine sq 9 rfl rfl (Y_len (B := B1) (m := b.length) (c := c1) k_sl_27_91 rfl rfl) ?_
  refine sq 10 rfl rfl (Y_ne (k := .i64) (a := (a.length : Int)) (b := (b.length : Int)) rfl rfl rfl) ?_
  refine rw_nil ?_
  refine cw_cond (b := ((a.length : Int) != (b.length : Int))) rfl (fun hb => ?_) (fun hb => ?_)
  · skip
    have hF1 := ct hF hb
    refine cw_seq ?_
    refine cw_region ?_
    refine sq 4 rfl rfl (Y_assign (v := .bool false) rfl rfl) ?_
    refine rw_nil ?_
    refine cw_ret ?_
    obtain rfl := some_inj hF1
    exact ret1 Try.results69 (v1 := .bool false) (resAt_tmp rfl) ⟨rfl, (ST.subR (R' := []) (hS.sel [] rfl rfl) (fun _ h => by cases h))⟩
  · skip
    have hF2 := cf' hF hb
    refine cw_skip ?_
    refine cw_seq ?_
    refine cw_seq ?_
    refine cw_region ?_
    refine sq 5 rfl rfl (Y_assign (v := .int .i64 0) rfl rfl) ?_
    refine rw_nil ?_
    obtain ⟨hN, hF2⟩ := chk_inv hF2
    obtain ⟨z, hz, hF3⟩ := bind_inv hF2
    refine cw_block ?_
    refine cw_loop (fun k f w => ∃ (i1 : Nat), FF f [(0, .slice B a.length c), (1, .slice B1 b.length c1), (5, .int .i64 (i1 : Int))] ∧ ST w0 [] w [] [⟨B, (a.flatMap enc_Dyadic)⟩, ⟨B1, (b.flatMap enc_Dyadic)⟩] ∧ i1 + k = a.length ∧ forX (F_laws_eqDyadicS_l1 a b) k i1 () = some z) a.length ⟨0, (FF.cons rfl (FF.cons rfl (FF.cons rfl FF.nil))), (hS.sel [] rfl rfl), Nat.zero_add _, hz⟩ ?_
    rintro k_ f w ⟨i1, hf, hS1, hik, hL⟩
    refine cw_seq ?_
    refine cw_seq ?_
    refine cw_region ?_
    refine sq 11 rfl rfl (Y_move (v := .int .i64 (i1 : Int)) rfl (hf.get 5 2 rfl)) ?_
    refine sq 12 rfl rfl (Y_move (v := .slice B a.length c) rfl (hf.get 0 0 rfl)) ?_
    refine sq 13 rfl rfl (Y_len (B := B) (m := a.length) (c := c) k_sl_27_91 rfl rfl) ?_
    refine sq 14 rfl rfl (Y_lt (k := .i64) (a := (i1 : Int)) (b := (a.length : Int)) rfl rfl rfl) ?_
    refine rw_nil ?_
    refine cw_cond (b := (decide ((i1 : Int) < (a.length : Int)))) rfl (fun hlt => ?_) (fun hlt => ?_)
    · skip
      have hlt1 : i1 < a.length := by have h := of_decide_eq_true hlt; omega
      obtain ⟨k_1, rfl⟩ : ∃ k2, k_ = k2 + 1 := ⟨k_ - 1, by omega⟩
      obtain ⟨y, hb1, hL1⟩ := forX_go hL
      unfold F_laws_eqDyadicS_l1 at hb1
      refine cw_skip ?_
      refine cw_seq ?_
      refine cw_block ?_
      refine cw_seq ?_
      obtain ⟨x, hx, hb1⟩ := bind_inv hb1
      obtain ⟨x1, hx1, hb1⟩ := bind_inv hb1
      obtain ⟨r_1, hc, hb1⟩ := bind_inv hb1
      refine ra_start (ST.sel hS1 [] rfl rfl).fn (by kernel_rfl) ?_
      have hS3 := hS1.drew
      refine ra_q 0 17 (v := .slice B a.length c) rfl rfl rfl (by kernel_rfl) (by kernel_rfl) (by kernel_rfl) (ST.sel hS3 [] rfl rfl) (fun w' hw' => (Y_move (v := .slice B a.length c) rfl (hf.get 0 0 rfl))) ?_
      refine ra_q 1 18 (v := .int .i64 (i1 : Int)) rfl rfl rfl (by kernel_rfl) (by kernel_rfl) (by kernel_rfl) (ST.sel hS3 [] rfl rfl) (fun w' hw' => (Y_move (v := .int .i64 (i1 : Int)) rfl (hf.get 5 2 rfl))) ?_
      refine ra_q 2 19 (v := pt B ((i1 : Int).toNat * 5)) rfl rfl rfl (by kernel_rfl) (by kernel_rfl) (by kernel_rfl) (ST.sel hS3 [] rfl rfl) (fun w' hw' => (Y_index (B := B) (m := a.length) (c := c) (k := .i64) (i := (i1 : Int)) k_sl_27_91 k_sz_91_5 rfl rfl rfl (gi_isSome enc_Dyadic_len rfl (ST.rf hw' (i := 0) rfl) hx) (getI_nn hx) (getI_ltI hx rfl))) ?_
      refine ra_q 3 20 (v := .agg #[.int .i64 x.Num.A, .int .i64 x.Num.B, .int .i64 x.Num.C, .int .i64 x.Num.D, .int .i64 x.Exp]) rfl rfl rfl (by kernel_rfl) (by kernel_rfl) (by kernel_rfl) (ST.sel hS3 [] rfl rfl) (fun w' hw' => (Y_loadA (B := B) (i := (i1 : Int).toNat * 5) (cs := (a.flatMap enc_Dyadic)) (vs := [.int .i64 x.Num.A, .int .i64 x.Num.B, .int .i64 x.Num.C, .int .i64 x.Num.D, .int .i64 x.Exp]) k_ag_91 k_sz_91_5 rfl rfl (ST.rf hw' (i := 0) rfl) (enc_Dyadic_len x) (gi_seg enc_Dyadic_len hx))) ?_
      refine ra_q 4 21 (v := .slice B1 b.length c1) rfl rfl rfl (by kernel_rfl) (by kernel_rfl) (by kernel_rfl) (ST.sel hS3 [] rfl rfl) (fun w' hw' => (Y_move (v := .slice B1 b.length c1) rfl (hf.get 1 1 rfl))) ?_
      refine ra_q 5 22 (v := .int .i64 (i1 : Int)) rfl rfl rfl (by kernel_rfl) (by kernel_rfl) (by kernel_rfl) (ST.sel hS3 [] rfl rfl) (fun w' hw' => (Y_move (v := .int .i64 (i1 : Int)) rfl (hf.get 5 2 rfl))) ?_
      refine ra_q 6 23 (v := pt B1 ((i1 : Int).toNat * 5)) rfl rfl rfl (by kernel_rfl) (by kernel_rfl) (by kernel_rfl) (ST.sel hS3 [] rfl rfl) (fun w' hw' => (Y_index (B := B1) (m := b.length) (c := c1) (k := .i64) (i := (i1 : Int)) k_sl_27_91 k_sz_91_5 rfl rfl rfl (gi_isSome enc_Dyadic_len rfl (ST.rf hw' (i := 1) rfl) hx1) (getI_nn hx1) (getI_ltI hx1 rfl))) ?_
      refine ra_q 7 24 (v := .agg #[.int .i64 x1.Num.A, .int .i64 x1.Num.B, .int .i64 x1.Num.C, .int .i64 x1.Num.D, .int .i64 x1.Exp]) rfl rfl rfl (by kernel_rfl) (by kernel_rfl) (by kernel_rfl) (ST.sel hS3 [] rfl rfl) (fun w' hw' => (Y_loadA (B := B1) (i := (i1 : Int).toNat * 5) (cs := (b.flatMap enc_Dyadic)) (vs := [.int .i64 x1.Num.A, .int .i64 x1.Num.B, .int .i64 x1.Num.C, .int .i64 x1.Num.D, .int .i64 x1.Exp]) k_ag_91 k_sz_91_5 rfl rfl (ST.rf hw' (i := 1) rfl) (enc_Dyadic_len x1) (gi_seg enc_Dyadic_len hx1))) ?_
      refine ra_all (rs := [8]) (by kernel_rfl) rfl ?_
      refine ra_c 25 (i := 8) rfl rfl rfl (Yc_func (g := 138) (vs := [.agg #[.int .i64 x.Num.A, .int .i64 x.Num.B, .int .i64 x.Num.C, .int .i64 x.Num.D, .int .i64 x.Exp], .agg #[.int .i64 x1.Num.A, .int .i64 x1.Num.B, .int .i64 x1.Num.C, .int .i64 x1.Num.D, .int .i64 x1.Exp]]) k_call_138 rfl (mc rfl (mc rfl mn)) (c_laws_eqDyadic x x1 _  (hS3.inn0 [] rfl) hc)) ?_ ?_
      · rintro _ w_ ⟨rfl, hd⟩
        have hS4 := hS3.out00 hd
        refine ⟨(ST.sel hS4 [] rfl rfl), ?_⟩
        refine ra_q 9 26 (v := .bool (!r_1)) rfl rfl rfl (by kernel_rfl) (by kernel_rfl) (by kernel_rfl) (ST.sel hS4 [] rfl rfl) (fun w' hw' => (Y_not (p := r_1) rfl rfl)) ?_
        refine ra_done (by kernel_rfl) ?_
        refine cw_cond (b := (!r_1)) rfl (fun hb2 => ?_) (fun hb2 => ?_)
        · skip
          have hF4 := ct hb1 hb2
          refine cw_seq ?_
          refine cw_region ?_
          refine sq 4 rfl rfl (Y_assign (v := .bool false) rfl rfl) ?_
          refine rw_nil ?_
          refine cw_ret ?_
          obtain rfl := some_inj hF4
          obtain rfl := some_inj hL1
          obtain rfl := some_inj hF3
          exact ret1 Try.results69 (v1 := .bool false) (resAt_tmp rfl) ⟨rfl, (ST.subR (R' := []) (hS4.sel [] rfl rfl) (fun _ h => by cases h))⟩
        · skip
          have hF5 := cf' hb1 hb2
          refine cw_skip ?_
          refine cw_region ?_
          refine sq 15 rfl rfl (Y_move (v := .int .i64 (i1 : Int)) rfl (hf.get 5 2 rfl)) ?_
          refine sq 16 rfl rfl (Y_add (k := .i64) (a := (i1 : Int)) (b := 1) rfl rfl rfl) ?_
          refine sq 5 rfl rfl (Y_assign (v := .int .i64 (IntKind.i64.wrap ((i1 : Int) + 1))) rfl rfl) ?_
          refine rw_nil ?_
          obtain rfl := some_inj hF5
          exact ⟨k_1, Nat.lt_succ_self _, i1 + 1, (FF.cons (hf.get 0 0 rfl) (FF.cons (hf.get 1 1 rfl) (FF.cons (congrArg (Value.int .i64) (wr_succ hlt1 hN)) FF.nil))), (hS4.sel [] rfl rfl), (by omega), hL1⟩
      exact allR_nil
    · skip
      obtain rfl : k_ = 0 := by have h := of_decide_eq_false hlt; omega
      refine cw_exit rfl ?_
      obtain rfl := some_inj hL
      refine cw_seq ?_
      refine cw_region ?_
      refine sq 4 rfl rfl (Y_assign (v := .bool true) rfl rfl) ?_
      refine rw_nil ?_
      refine cw_ret ?_
      obtain rfl := some_inj hF3
      exact ret1 Try.results69 (v1 := .bool true) (resAt_tmp rfl) ⟨rfl, (ST.subR (R' := []) (hS1.sel [] rfl rfl) (fun _ h => by cases h))⟩

theorem c_laws_eqMatrix (a : TMatrix) (b : TMatrix) (B : Option Addr) (c n : Nat) (B1 : Option Addr) (c1 n1 : Nat) (w0 : World) (hn : a.Cells.length = n) (hn1 : b.Cells.length = n1) (hS : ST w0 [] w0 [] [⟨B, (a.Cells.flatMap enc_Dyadic)⟩, ⟨B1, (b.Cells.flatMap enc_Dyadic)⟩]) {r_ : Bool} (hF : F_laws_eqMatrix a b = some r_) :
    CV Try.prog 38 #[.agg #[.int .i64 a.Rows, .int .i64 a.Cols, .slice B n c], .agg #[.int .i64 b.Rows, .int .i64 b.Cols, .slice B1 n1 c1]] w0 (fun v w' => v = .bool r_ ∧ ST w0 [] w' [] []) := by
  subst hn
  subst hn1
  unfold F_laws_eqMatrix at hF
  refine cv_of_cw 21 Try.func38 rfl Try.ntmps38 rfl ?_
  refine cw_seq ?_
  refine cw_region ?_
  refine ss 2 rfl rfl (Ys_box (T := 62) (v := .agg #[.int .i64 a.Rows, .int .i64 a.Cols, .slice B a.Cells.length c]) (cs := [.int .i64 a.Rows, .int .i64 a.Cols, .slice B a.Cells.length c]) (m := 3) hS rfl rfl rfl rfl) ?_
  rintro _ w_ ⟨b1, rfl, hS1⟩
  refine ss 3 rfl rfl (Ys_box (T := 62) (v := .agg #[.int .i64 b.Rows, .int .i64 b.Cols, .slice B1 b.Cells.length c1]) (cs := [.int .i64 b.Rows, .int .i64 b.Cols, .slice B1 b.Cells.length c1]) (m := 3) hS1 rfl rfl rfl rfl) ?_
  rintro _ w_1 ⟨b2, rfl, hS2⟩
  have hS2 : ST w0 [] _ [⟨some ⟨b1, 0, none⟩, 62, [.int .i64 a.Rows, .int .i64 a.Cols, .slice B a.Cells.length c], 3⟩, ⟨some ⟨b2, 0, none⟩, 62, [.int .i64 b.Rows, .int .i64 b.Cols, .slice B1 b.Cells.length c1], 3⟩] [⟨B, (a.Cells.flatMap enc_Dyadic)⟩, ⟨B1, (b.Cells.flatMap enc_Dyadic)⟩] := hS2
  refine sq 4 rfl rfl (Y_assign (v := .bool false) rfl rfl) ?_
  refine rw_nil ?_
  refine cw_seq ?_
  refine cw_seq ?_
  refine cw_region ?_
  refine sq 5 rfl rfl (Y_fieldAddr (B := some ⟨b1, 0, none⟩) (i := 0) (s := 0) k_fd_62_0_0_3 k_sz_3_1 rfl rfl) ?_
  refine sq 6 rfl rfl (Y_load1 (B := some ⟨b1, 0, none⟩) (i := 0) (cs := [.int .i64 a.Rows, .int .i64 a.Cols, .slice B a.Cells.length c]) (v := .int .i64 a.Rows) k_sc_3 rfl rfl (hS2.cf (i := 0) rfl) rfl) ?_
  refine sq 7 rfl rfl (Y_fieldAddr (B := some ⟨b2, 0, none⟩) (i := 0) (s := 0) k_fd_62_0_0_3 k_sz_3_1 rfl rfl) ?_
  refine sq 8 rfl rfl (Y_load1 (B := some ⟨b2, 0, none⟩) (i := 0) (cs := [.int .i64 b.Rows, .int .i64 b.Cols, .slice B1 b.Cells.length c1]) (v := .int .i64 b.Rows) k_sc_3 rfl rfl (hS2.cf (i := 1) rfl) rfl) ?_
  refine sq 9 rfl rfl (Y_ne (k := .i64) (a := a.Rows) (b := b.Rows) rfl rfl rfl) ?_
  refine rw_nil ?_
  refine cw_cond (b := (a.Rows != b.Rows)) rfl (fun hb => ?_) (fun hb => ?_)
  · skip
    have hF1 := ct hF hb
    refine cw_seq ?_
    refine cw_region ?_
    refine sq 4 rfl rfl (Y_assign (v := .bool false) rfl rfl) ?_
    refine rw_nil ?_
    refine cw_ret ?_
    obtain rfl := some_inj hF1
    exact ret1 Try.results38 (v1 := .bool false) (resAt_tmp rfl) ⟨rfl, (ST.subR (R' := []) (hS2.sel [] rfl rfl) (fun _ h => by cases h))⟩
  · skip
    have hF2 := cf' hF hb
    refine cw_skip ?_
    refine cw_seq ?_
    refine cw_seq ?_
    refine cw_region ?_
    refine sq 10 rfl rfl (Y_fieldAddr (B := some ⟨b1, 0, none⟩) (i := 0) (s := 0) k_fd_62_1_1_3 k_sz_3_1 rfl rfl) ?_
    refine sq 11 rfl rfl (Y_load1 (B := some ⟨b1, 0, none⟩) (i := 1) (cs := [.int .i64 a.Rows, .int .i64 a.Cols, .slice B a.Cells.length c]) (v := .int .i64 a.Cols) k_sc_3 rfl rfl (hS2.cf (i := 0) rfl) rfl) ?_
    refine sq 12 rfl rfl (Y_fieldAddr (B := some ⟨b2, 0, none⟩) (i := 0) (s := 0) k_fd_62_1_1_3 k_sz_3_1 rfl rfl) ?_
    refine sq 13 rfl rfl (Y_load1 (B := some ⟨b2, 0, none⟩) (i := 1) (cs := [.int .i64 b.Rows, .int .i64 b.Cols, .slice B1 b.Cells.length c1]) (v := .int .i64 b.Cols) k_sc_3 rfl rfl (hS2.cf (i := 1) rfl) rfl) ?_
    refine sq 14 rfl rfl (Y_ne (k := .i64) (a := a.Cols) (b := b.Cols) rfl rfl rfl) ?_
    refine rw_nil ?_
    refine cw_cond (b := (a.Cols != b.Cols)) rfl (fun hb1 => ?_) (fun hb1 => ?_)
    · skip
      have hF3 := ct hF2 hb1
      refine cw_seq ?_
      refine cw_region ?_
      refine sq 4 rfl rfl (Y_assign (v := .bool false) rfl rfl) ?_
      refine rw_nil ?_
      refine cw_ret ?_
      obtain rfl := some_inj hF3
      exact ret1 Try.results38 (v1 := .bool false) (resAt_tmp rfl) ⟨rfl, (ST.subR (R' := []) (hS2.sel [] rfl rfl) (fun _ h => by cases h))⟩
    · skip
      have hF4 := cf' hF2 hb1
      refine cw_skip ?_
      refine cw_seq ?_
      refine cw_seq ?_
      refine cw_region ?_
      refine sq 15 rfl rfl (Y_fieldAddr (B := some ⟨b1, 0, none⟩) (i := 0) (s := 0) k_fd_62_2_2_27 k_sz_27_1 rfl rfl) ?_
      refine sq 16 rfl rfl (Y_load1 (B := some ⟨b1, 0, none⟩) (i := 2) (cs := [.int .i64 a.Rows, .int .i64 a.Cols, .slice B a.Cells.length c]) (v := .slice B a.Cells.length c) k_sc_27 rfl rfl (hS2.cf (i := 0) rfl) rfl) ?_
      refine sq 17 rfl rfl (Y_fieldAddr (B := some ⟨b2, 0, none⟩) (i := 0) (s := 0) k_fd_62_2_2_27 k_sz_27_1 rfl rfl) ?_
      refine sq 18 rfl rfl (Y_load1 (B := some ⟨b2, 0, none⟩) (i := 2) (cs := [.int .i64 b.Rows, .int .i64 b.Cols, .slice B1 b.Cells.length c1]) (v := .slice B1 b.Cells.length c1) k_sc_27 rfl rfl (hS2.cf (i := 1) rfl) rfl) ?_
      obtain ⟨r_1, hc, hF4⟩ := bind_inv hF4
      refine sc 19 rfl rfl (Yc_func (g := 69) (vs := [.slice B a.Cells.length c, .slice B1 b.Cells.length c1]) k_call_69 rfl (mc rfl (mc rfl mn)) (c_laws_eqDyadicS a.Cells b.Cells B c a.Cells.length B1 c1 b.Cells.length _ rfl rfl (hS2.inn0 [(true, 0), (true, 1)] rfl) hc)) ?_
      rintro _ w_2 ⟨rfl, hd⟩
      have hS3 := hS2.out00 hd
      have hS3 : ST w0 [] _ [⟨some ⟨b1, 0, none⟩, 62, [.int .i64 a.Rows, .int .i64 a.Cols, .slice B a.Cells.length c], 3⟩, ⟨some ⟨b2, 0, none⟩, 62, [.int .i64 b.Rows, .int .i64 b.Cols, .slice B1 b.Cells.length c1], 3⟩] [⟨B, (a.Cells.flatMap enc_Dyadic)⟩, ⟨B1, (b.Cells.flatMap enc_Dyadic)⟩] := hS3
      refine sq 20 rfl rfl (Y_not (p := r_1) rfl rfl) ?_
      refine rw_nil ?_
      refine cw_cond (b := (!r_1)) rfl (fun hb2 => ?_) (fun hb2 => ?_)
      · skip
        have hF5 := ct hF4 hb2
        refine cw_seq ?_
        refine cw_region ?_
        refine sq 4 rfl rfl (Y_assign (v := .bool false) rfl rfl) ?_
        refine rw_nil ?_
        refine cw_ret ?_
        obtain rfl := some_inj hF5
        exact ret1 Try.results38 (v1 := .bool false) (resAt_tmp rfl) ⟨rfl, (ST.subR (R' := []) (hS3.sel [] rfl rfl) (fun _ h => by cases h))⟩
      · skip
        have hF6 := cf' hF4 hb2
        refine cw_skip ?_
        refine cw_seq ?_
        refine cw_region ?_
        refine sq 4 rfl rfl (Y_assign (v := .bool true) rfl rfl) ?_
        refine rw_nil ?_
        refine cw_ret ?_
        obtain rfl := some_inj hF6
        exact ret1 Try.results38 (v1 := .bool true) (resAt_tmp rfl) ⟨rfl, (ST.subR (R' := []) (hS3.sel [] rfl rfl) (fun _ h => by cases h))⟩

theorem c_spec_l1In (n : Int) (lo : Int) (hi : Int)  (w0 : World)  (hS : ST w0 [] w0 [] []) {r_ : Bool} (hF : F_spec_l1In n lo hi = some r_) :
    CV Try.prog 140 #[.int .i64 n, .int .i64 lo, .int .i64 hi] w0 (fun v w' => v = .bool r_ ∧ ST w0 [] w' [] []) := by
  unfold F_spec_l1In at hF
  refine cv_of_cw 15 Try.func140 rfl Try.ntmps140 rfl ?_
  refine cw_seq ?_
  refine cw_region ?_
  refine sq 6 rfl rfl (Y_assign (v := .bool false) rfl rfl) ?_
  refine rw_nil ?_
  refine cw_seq ?_
  refine cw_region ?_
  refine sq 7 rfl rfl (Y_move (v := .int .i64 n) rfl rfl) ?_
  refine sq 8 rfl rfl (Y_move (v := .int .i64 lo) rfl rfl) ?_
  refine sq 9 rfl rfl (Y_ge (k := .i64) (a := n) (b := lo) rfl rfl rfl) ?_
  refine sq 10 rfl rfl (Y_move (v := .bool (decide (lo ≤ n))) rfl rfl) ?_
  refine sgq 11 (B := (decide (lo ≤ n))) (v := .int .i64 n) rfl rfl (wt_t (gd_of (t := 10) (by kernel_rfl) rfl)) (fun hg => (Y_move (v := .int .i64 n) rfl rfl)) ?_
  refine sgq 12 (B := (decide (lo ≤ n))) (v := .int .i64 hi) rfl rfl (wt_t (gd_of (t := 10) (by kernel_rfl) rfl)) (fun hg1 => (Y_move (v := .int .i64 hi) rfl rfl)) ?_
  refine sgq 13 (B := (decide (lo ≤ n))) (v := .bool (decide (n ≤ hi))) rfl rfl (wt_t (gd_of (t := 10) (by kernel_rfl) rfl)) (fun hg2 => (Y_le (k := .i64) (a := n) (b := hi) rfl (gv_of (B := (decide (lo ≤ n))) (v := .int .i64 n) hg2) (gv_of (B := (decide (lo ≤ n))) (v := .int .i64 hi) hg2))) ?_
  refine sq 14 rfl rfl (Y_and (b := (decide (lo ≤ n))) (z := (decide (n ≤ hi))) rfl rfl rfl rfl) ?_
  refine sq 6 rfl rfl (Y_assign (v := .bool ((decide (lo ≤ n)) && (decide (n ≤ hi)))) rfl rfl) ?_
  refine rw_nil ?_
  refine cw_ret ?_
  obtain rfl := some_inj hF
  exact ret1 Try.results140 (v1 := .bool ((decide (lo ≤ n)) && (decide (n ≤ hi)))) (resAt_tmp rfl) ⟨rfl, (ST.subR (R' := []) (hS.sel [] rfl rfl) (fun _ h => by cases h))⟩

theorem c_spec_l1All (l : List Int) (lo : Int) (hi : Int) (B : Option Addr) (c n : Nat) (w0 : World) (hn : l.length = n) (hS : ST w0 [] w0 [] [⟨B, (l.flatMap encI)⟩]) {r_ : Bool} (hF : F_spec_l1All l lo hi = some r_) :
    CV Try.prog 191 #[.slice B n c, .int .i64 lo, .int .i64 hi] w0 (fun v w' => v = .bool r_ ∧ ST w0 [] w' [] []) := by
  subst hn
  unfold F_spec_l1All at hF
  refine cv_of_cw 21 Try.func191 rfl Try.ntmps191 rfl ?_
  refine cw_seq ?_
  refine cw_region ?_
  refine sq 6 rfl rfl (Y_assign (v := .bool false) rfl rfl) ?_
  refine rw_nil ?_
  refine cw_seq ?_
  refine cw_seq ?_
  refine cw_region ?_
  refine sq 9 rfl rfl (Y_move (v := .slice B l.length c) rfl rfl) ?_
  refine sq 10 rfl rfl (Y_len (B := B) (m := l.length) (c := c) k_sl_34_3 rfl rfl) ?_
  refine sq 11 rfl rfl (Y_move (v := .int .i64 0) rfl rfl) ?_
  refine rw_nil ?_
  obtain ⟨hN, hF⟩ := chk_inv hF
  obtain ⟨z, hz, hF1⟩ := bind_inv hF
  refine cw_block ?_
  refine cw_loop (fun k f w => ∃ (i : Nat), FF f [(1, .int .i64 lo), (2, .int .i64 hi), (9, .slice B l.length c), (10, .int .i64 (l.length : Int)), (11, .int .i64 (i : Int))] ∧ ST w0 [] w [] [⟨B, (l.flatMap encI)⟩] ∧ i + k = l.length ∧ forX (F_spec_l1All_l1 l lo hi) k i () = some z) l.length ⟨0, (FF.cons rfl (FF.cons rfl (FF.cons rfl (FF.cons rfl (FF.cons rfl FF.nil))))), (hS.sel [] rfl rfl), Nat.zero_add _, hz⟩ ?_
  rintro k_ f w ⟨i, hf, hS1, hik, hL⟩
  refine cw_seq ?_
  refine cw_region ?_
  refine sq 12 rfl rfl (Y_lt (k := .i64) (a := (i : Int)) (b := (l.length : Int)) rfl (hf.get 11 4 rfl) (hf.get 10 3 rfl)) ?_
  refine rw_nil ?_
  refine cw_seq ?_
  refine cw_cond (b := (decide ((i : Int) < (l.length : Int)))) rfl (fun hlt => ?_) (fun hlt => ?_)
  · skip
    have hlt1 : i < l.length := by have h := of_decide_eq_true hlt; omega
    obtain ⟨k_1, rfl⟩ : ∃ k2, k_ = k2 + 1 := ⟨k_ - 1, by omega⟩
    obtain ⟨y, hb, hL1⟩ := forX_go hL
    unfold F_spec_l1All_l1 at hb
    refine cw_skip ?_
    refine cw_seq ?_
    refine cw_block ?_
    refine cw_seq ?_
    refine cw_region ?_
    obtain ⟨x, hx, hb⟩ := bind_inv hb
    refine sq 13 rfl rfl (Y_index (B := B) (m := l.length) (c := c) (k := .i64) (i := (i : Int)) k_sl_34_3 k_sz_3_1 rfl (hf.get 9 2 rfl) (hf.get 11 4 rfl) (gi_isSome encI_len rfl (hS1.rf (i := 0) rfl) hx) (getI_nn hx) (getI_ltI hx rfl)) ?_
    refine sq 14 rfl rfl (Y_load1 (B := B) (i := (i : Int).toNat * 1) (cs := (l.flatMap encI)) (v := .int .i64 x) k_sc_3 rfl rfl (hS1.rf (i := 0) rfl) (gi_at0 encI_len hx rfl)) ?_
    refine sq 8 rfl rfl (Y_assign (v := .int .i64 x) rfl rfl) ?_
    refine rw_nil ?_
    refine cw_seq ?_
    refine cw_region ?_
    refine sq 15 rfl rfl (Y_move (v := .int .i64 x) rfl rfl) ?_
    refine sq 16 rfl rfl (Y_move (v := .int .i64 lo) rfl (hf.get 1 0 rfl)) ?_
    refine sq 17 rfl rfl (Y_move (v := .int .i64 hi) rfl (hf.get 2 1 rfl)) ?_
    obtain ⟨r_1, hc, hb⟩ := bind_inv hb
    refine sc 18 rfl rfl (Yc_func (g := 140) (vs := [.int .i64 x, .int .i64 lo, .int .i64 hi]) k_call_140 rfl (mc rfl (mc rfl (mc rfl mn))) (c_spec_l1In x lo hi _  (hS1.inn0 [] rfl) hc)) ?_
    rintro _ w_ ⟨rfl, hd⟩
    have hS2 := hS1.out00 hd
    refine sq 19 rfl rfl (Y_not (p := r_1) rfl rfl) ?_
    refine rw_nil ?_
    refine cw_cond (b := (!r_1)) rfl (fun hb1 => ?_) (fun hb1 => ?_)
    · skip
      have hF2 := ct hb hb1
      refine cw_seq ?_
      refine cw_region ?_
      refine sq 6 rfl rfl (Y_assign (v := .bool false) rfl rfl) ?_
      refine rw_nil ?_
      refine cw_ret ?_
      obtain rfl := some_inj hF2
      obtain rfl := some_inj hL1
      obtain rfl := some_inj hF1
      exact ret1 Try.results191 (v1 := .bool false) (resAt_tmp rfl) ⟨rfl, (ST.subR (R' := []) (hS2.sel [] rfl rfl) (fun _ h => by cases h))⟩
    · skip
      have hF3 := cf' hb hb1
      refine cw_skip ?_
      refine cw_region ?_
      refine sq 20 rfl rfl (Y_add (k := .i64) (a := (i : Int)) (b := 1) rfl (hf.get 11 4 rfl) rfl) ?_
      refine sq 11 rfl rfl (Y_move (v := .int .i64 (IntKind.i64.wrap ((i : Int) + 1))) rfl rfl) ?_
      refine rw_nil ?_
      obtain rfl := some_inj hF3
      exact ⟨k_1, Nat.lt_succ_self _, i + 1, (FF.cons (hf.get 1 0 rfl) (FF.cons (hf.get 2 1 rfl) (FF.cons (hf.get 9 2 rfl) (FF.cons (hf.get 10 3 rfl) (FF.cons (congrArg (Value.int .i64) (wr_succ hlt1 hN)) FF.nil))))), (hS2.sel [] rfl rfl), (by omega), hL1⟩
  · skip
    obtain rfl : k_ = 0 := by have h := of_decide_eq_false hlt; omega
    refine cw_exit rfl ?_
    obtain rfl := some_inj hL
    refine cw_seq ?_
    refine cw_region ?_
    refine sq 6 rfl rfl (Y_assign (v := .bool true) rfl rfl) ?_
    refine rw_nil ?_
    refine cw_ret ?_
    obtain rfl := some_inj hF1
    exact ret1 Try.results191 (v1 := .bool true) (resAt_tmp rfl) ⟨rfl, (ST.subR (R' := []) (hS1.sel [] rfl rfl) (fun _ h => by cases h))⟩

theorem c_spec_l1Good (x : TRing)  (w0 : World)  (hS : ST w0 [] w0 [] []) {r_ : Bool} (hF : F_spec_l1Good x = some r_) :
    CV Try.prog 175 #[.agg #[.int .i64 x.A, .int .i64 x.B, .int .i64 x.C, .int .i64 x.D]] w0 (fun v w' => v = .bool r_ ∧ ST w0 [] w' [] []) := by
  unfold F_spec_l1Good at hF
  refine cv_of_cw 13 Try.func175 rfl Try.ntmps175 rfl ?_
  refine cw_seq ?_
  refine cw_region ?_
  refine ss 1 rfl rfl (Ys_box (T := 89) (v := .agg #[.int .i64 x.A, .int .i64 x.B, .int .i64 x.C, .int .i64 x.D]) (cs := [.int .i64 x.A, .int .i64 x.B, .int .i64 x.C, .int .i64 x.D]) (m := 4) hS rfl rfl rfl rfl) ?_
  rintro _ w_ ⟨b, rfl, hS1⟩
  refine sq 2 rfl rfl (Y_assign (v := .bool false) rfl rfl) ?_
  refine rw_nil ?_
  refine cw_seq ?_
  refine cw_region ?_
  refine sq 3 rfl rfl (Y_fieldAddr (B := some ⟨b, 0, none⟩) (i := 0) (s := 0) k_fd_89_0_0_3 k_sz_3_1 rfl rfl) ?_
  refine sq 4 rfl rfl (Y_load1 (B := some ⟨b, 0, none⟩) (i := 0) (cs := [.int .i64 x.A, .int .i64 x.B, .int .i64 x.C, .int .i64 x.D]) (v := .int .i64 x.A) k_sc_3 rfl rfl (hS1.cf (i := 0) rfl) rfl) ?_
  refine sq 5 rfl rfl (Y_fieldAddr (B := some ⟨b, 0, none⟩) (i := 0) (s := 0) k_fd_89_1_1_3 k_sz_3_1 rfl rfl) ?_
  refine sq 6 rfl rfl (Y_load1 (B := some ⟨b, 0, none⟩) (i := 1) (cs := [.int .i64 x.A, .int .i64 x.B, .int .i64 x.C, .int .i64 x.D]) (v := .int .i64 x.B) k_sc_3 rfl rfl (hS1.cf (i := 0) rfl) rfl) ?_
  refine sq 7 rfl rfl (Y_fieldAddr (B := some ⟨b, 0, none⟩) (i := 0) (s := 0) k_fd_89_2_2_3 k_sz_3_1 rfl rfl) ?_
  refine sq 8 rfl rfl (Y_load1 (B := some ⟨b, 0, none⟩) (i := 2) (cs := [.int .i64 x.A, .int .i64 x.B, .int .i64 x.C, .int .i64 x.D]) (v := .int .i64 x.C) k_sc_3 rfl rfl (hS1.cf (i := 0) rfl) rfl) ?_
  refine sq 9 rfl rfl (Y_fieldAddr (B := some ⟨b, 0, none⟩) (i := 0) (s := 0) k_fd_89_3_3_3 k_sz_3_1 rfl rfl) ?_
  refine sq 10 rfl rfl (Y_load1 (B := some ⟨b, 0, none⟩) (i := 3) (cs := [.int .i64 x.A, .int .i64 x.B, .int .i64 x.C, .int .i64 x.D]) (v := .int .i64 x.D) k_sc_3 rfl rfl (hS1.cf (i := 0) rfl) rfl) ?_
  refine ss 11 rfl rfl (Ys_bslice (s := 1) (len := 4) (vs := [(0, .int .i64 x.A), (1, .int .i64 x.B), (2, .int .i64 x.C), (3, .int .i64 x.D)]) (cs := [.int .i64 x.A, .int .i64 x.B, .int .i64 x.C, .int .i64 x.D]) (zs := [.int .i64 0, .int .i64 0, .int .i64 0, .int .i64 0]) (m := 4) hS1 k_sl_34_3 k_sz_3_1 k_zc_3 rfl (mpc rfl (mpc rfl (mpc rfl (mpc rfl mpn)))) rfl rfl rfl rfl rfl rfl) ?_
  rintro _ w_1 ⟨b1, rfl, hS2⟩
  have hS2 : ST w0 [] _ [⟨some ⟨b, 0, none⟩, 89, [.int .i64 x.A, .int .i64 x.B, .int .i64 x.C, .int .i64 x.D], 4⟩, ⟨some ⟨b1, 0, none⟩, 3, ([x.A, x.B, x.C, x.D].flatMap encI), 4 * 1⟩] [] := hS2
  obtain ⟨r_1, hc, hF⟩ := bind_inv hF
  refine sc 12 rfl rfl (Yc_func (g := 191) (vs := [.slice (some ⟨b1, 0, none⟩) 4 4, .int .i64 (-1000000000), .int .i64 1000000000]) k_call_191 rfl (mc rfl (mc rfl (mc rfl mn))) (c_spec_l1All [x.A, x.B, x.C, x.D] (-1000000000) 1000000000 (some ⟨b1, 0, none⟩) 4 4 _ rfl (hS2.inn0 [(false, 1)] rfl) hc)) ?_
  rintro _ w_2 ⟨rfl, hd⟩
  have hS3 := hS2.out00 hd
  have hS3 : ST w0 [] _ [⟨some ⟨b, 0, none⟩, 89, [.int .i64 x.A, .int .i64 x.B, .int .i64 x.C, .int .i64 x.D], 4⟩, ⟨some ⟨b1, 0, none⟩, 3, ([x.A, x.B, x.C, x.D].flatMap encI), 4 * 1⟩] [] := hS3
  refine sq 2 rfl rfl (Y_assign (v := .bool r_1) rfl rfl) ?_
  refine rw_nil ?_
  refine cw_ret ?_
  obtain rfl := some_inj hF
  exact ret1 Try.results175 (v1 := .bool r_1) (resAt_tmp rfl) ⟨rfl, (ST.subR (R' := []) (hS3.sel [] rfl rfl) (fun _ h => by cases h))⟩

theorem c_spec_l1Even (x : TRing)  (w0 : World)  (hS : ST w0 [] w0 [] []) {r_ : Bool} (hF : F_spec_l1Even x = some r_) :
    CV Try.prog 176 #[.agg #[.int .i64 x.A, .int .i64 x.B, .int .i64 x.C, .int .i64 x.D]] w0 (fun v w' => v = .bool r_ ∧ ST w0 [] w' [] []) := by
  unfold F_spec_l1Even at hF
  refine cv_of_cw 19 Try.func176 rfl Try.ntmps176 rfl ?_
  refine cw_seq ?_
  refine cw_region ?_
  refine ss 1 rfl rfl (Ys_box (T := 89) (v := .agg #[.int .i64 x.A, .int .i64 x.B, .int .i64 x.C, .int .i64 x.D]) (cs := [.int .i64 x.A, .int .i64 x.B, .int .i64 x.C, .int .i64 x.D]) (m := 4) hS rfl rfl rfl rfl) ?_
  rintro _ w_ ⟨b, rfl, hS1⟩
  refine sq 2 rfl rfl (Y_assign (v := .bool false) rfl rfl) ?_
  refine rw_nil ?_
  refine cw_seq ?_
  refine cw_region ?_
  refine sq 3 rfl rfl (Y_fieldAddr (B := some ⟨b, 0, none⟩) (i := 0) (s := 0) k_fd_89_0_0_3 k_sz_3_1 rfl rfl) ?_
  refine sq 4 rfl rfl (Y_load1 (B := some ⟨b, 0, none⟩) (i := 0) (cs := [.int .i64 x.A, .int .i64 x.B, .int .i64 x.C, .int .i64 x.D]) (v := .int .i64 x.A) k_sc_3 rfl rfl (hS1.cf (i := 0) rfl) rfl) ?_
  refine sq 5 rfl rfl (Y_fieldAddr (B := some ⟨b, 0, none⟩) (i := 0) (s := 0) k_fd_89_2_2_3 k_sz_3_1 rfl rfl) ?_
  refine sq 6 rfl rfl (Y_load1 (B := some ⟨b, 0, none⟩) (i := 2) (cs := [.int .i64 x.A, .int .i64 x.B, .int .i64 x.C, .int .i64 x.D]) (v := .int .i64 x.C) k_sc_3 rfl rfl (hS1.cf (i := 0) rfl) rfl) ?_
  refine sq 7 rfl rfl (Y_add (k := .i64) (a := x.A) (b := x.C) rfl rfl rfl) ?_
  refine sq 8 rfl rfl (Y_rem (k := .i64) (a := (IntKind.i64.wrap (x.A + x.C))) (b := 2) rfl rfl rfl (by decide)) ?_
  refine sq 9 rfl rfl (Y_eq (k := .i64) (a := (Int.tmod (IntKind.i64.wrap (x.A + x.C)) 2)) (b := 0) rfl rfl rfl) ?_
  refine sq 10 rfl rfl (Y_move (v := .bool ((Int.tmod (IntKind.i64.wrap (x.A + x.C)) 2) == 0)) rfl rfl) ?_
  refine sgq 11 (B := ((Int.tmod (IntKind.i64.wrap (x.A + x.C)) 2) == 0)) (v := pt (some ⟨b, 0, none⟩) 1) rfl rfl (wt_t (gd_of (t := 10) (by kernel_rfl) rfl)) (fun hg => (Y_fieldAddr (B := some ⟨b, 0, none⟩) (i := 0) (s := 0) k_fd_89_1_1_3 k_sz_3_1 rfl rfl)) ?_
  refine sgq 12 (B := ((Int.tmod (IntKind.i64.wrap (x.A + x.C)) 2) == 0)) (v := .int .i64 x.B) rfl rfl (wt_t (gd_of (t := 10) (by kernel_rfl) rfl)) (fun hg1 => (Y_load1 (B := some ⟨b, 0, none⟩) (i := 1) (cs := [.int .i64 x.A, .int .i64 x.B, .int .i64 x.C, .int .i64 x.D]) (v := .int .i64 x.B) k_sc_3 rfl (gv_of (B := ((Int.tmod (IntKind.i64.wrap (x.A + x.C)) 2) == 0)) (v := pt (some ⟨b, 0, none⟩) 1) hg1) (hS1.cf (i := 0) rfl) rfl)) ?_
  refine sgq 13 (B := ((Int.tmod (IntKind.i64.wrap (x.A + x.C)) 2) == 0)) (v := pt (some ⟨b, 0, none⟩) 3) rfl rfl (wt_t (gd_of (t := 10) (by kernel_rfl) rfl)) (fun hg2 => (Y_fieldAddr (B := some ⟨b, 0, none⟩) (i := 0) (s := 0) k_fd_89_3_3_3 k_sz_3_1 rfl rfl)) ?_
  refine sgq 14 (B := ((Int.tmod (IntKind.i64.wrap (x.A + x.C)) 2) == 0)) (v := .int .i64 x.D) rfl rfl (wt_t (gd_of (t := 10) (by kernel_rfl) rfl)) (fun hg3 => (Y_load1 (B := some ⟨b, 0, none⟩) (i := 3) (cs := [.int .i64 x.A, .int .i64 x.B, .int .i64 x.C, .int .i64 x.D]) (v := .int .i64 x.D) k_sc_3 rfl (gv_of (B := ((Int.tmod (IntKind.i64.wrap (x.A + x.C)) 2) == 0)) (v := pt (some ⟨b, 0, none⟩) 3) hg3) (hS1.cf (i := 0) rfl) rfl)) ?_
  refine sgq 15 (B := ((Int.tmod (IntKind.i64.wrap (x.A + x.C)) 2) == 0)) (v := .int .i64 (IntKind.i64.wrap (x.B + x.D))) rfl rfl (wt_t (gd_of (t := 10) (by kernel_rfl) rfl)) (fun hg4 => (Y_add (k := .i64) (a := x.B) (b := x.D) rfl (gv_of (B := ((Int.tmod (IntKind.i64.wrap (x.A + x.C)) 2) == 0)) (v := .int .i64 x.B) hg4) (gv_of (B := ((Int.tmod (IntKind.i64.wrap (x.A + x.C)) 2) == 0)) (v := .int .i64 x.D) hg4))) ?_
  refine sgq 16 (B := ((Int.tmod (IntKind.i64.wrap (x.A + x.C)) 2) == 0)) (v := .int .i64 (Int.tmod (IntKind.i64.wrap (x.B + x.D)) 2)) rfl rfl (wt_t (gd_of (t := 10) (by kernel_rfl) rfl)) (fun hg5 => (Y_rem (k := .i64) (a := (IntKind.i64.wrap (x.B + x.D))) (b := 2) rfl (gv_of (B := ((Int.tmod (IntKind.i64.wrap (x.A + x.C)) 2) == 0)) (v := .int .i64 (IntKind.i64.wrap (x.B + x.D))) hg5) rfl (by decide))) ?_
  refine sgq 17 (B := ((Int.tmod (IntKind.i64.wrap (x.A + x.C)) 2) == 0)) (v := .bool ((Int.tmod (IntKind.i64.wrap (x.B + x.D)) 2) == 0)) rfl rfl (wt_t (gd_of (t := 10) (by kernel_rfl) rfl)) (fun hg6 => (Y_eq (k := .i64) (a := (Int.tmod (IntKind.i64.wrap (x.B + x.D)) 2)) (b := 0) rfl (gv_of (B := ((Int.tmod (IntKind.i64.wrap (x.A + x.C)) 2) == 0)) (v := .int .i64 (Int.tmod (IntKind.i64.wrap (x.B + x.D)) 2)) hg6) rfl)) ?_
  refine sq 18 rfl rfl (Y_and (b := ((Int.tmod (IntKind.i64.wrap (x.A + x.C)) 2) == 0)) (z := ((Int.tmod (IntKind.i64.wrap (x.B + x.D)) 2) == 0)) rfl rfl rfl rfl) ?_
  refine sq 2 rfl rfl (Y_assign (v := .bool (((Int.tmod (IntKind.i64.wrap (x.A + x.C)) 2) == 0) && ((Int.tmod (IntKind.i64.wrap (x.B + x.D)) 2) == 0))) rfl rfl) ?_
  refine rw_nil ?_
  refine cw_ret ?_
  obtain rfl := some_inj hF
  exact ret1 Try.results176 (v1 := .bool (((Int.tmod (IntKind.i64.wrap (x.A + x.C)) 2) == 0) && ((Int.tmod (IntKind.i64.wrap (x.B + x.D)) 2) == 0))) (resAt_tmp rfl) ⟨rfl, (ST.subR (R' := []) (hS1.sel [] rfl rfl) (fun _ h => by cases h))⟩

theorem c_spec_l2Good (x : TDyadic)  (w0 : World)  (hS : ST w0 [] w0 [] []) {r_ : Bool} (hF : F_spec_l2Good x = some r_) :
    CV Try.prog 124 #[.agg #[.int .i64 x.Num.A, .int .i64 x.Num.B, .int .i64 x.Num.C, .int .i64 x.Num.D, .int .i64 x.Exp]] w0 (fun v w' => v = .bool r_ ∧ ST w0 [] w' [] []) := by
  unfold F_spec_l2Good at hF
  refine cv_of_cw 22 Try.func124 rfl Try.ntmps124 rfl ?_
  refine cw_seq ?_
  refine cw_region ?_
  refine ss 1 rfl rfl (Ys_box (T := 91) (v := .agg #[.int .i64 x.Num.A, .int .i64 x.Num.B, .int .i64 x.Num.C, .int .i64 x.Num.D, .int .i64 x.Exp]) (cs := [.int .i64 x.Num.A, .int .i64 x.Num.B, .int .i64 x.Num.C, .int .i64 x.Num.D, .int .i64 x.Exp]) (m := 5) hS rfl rfl rfl rfl) ?_
  rintro _ w_ ⟨b, rfl, hS1⟩
  refine sq 2 rfl rfl (Y_assign (v := .bool false) rfl rfl) ?_
  refine rw_nil ?_
  refine cw_seq ?_
  refine cw_region ?_
  refine sq 3 rfl rfl (Y_fieldAddr (B := some ⟨b, 0, none⟩) (i := 0) (s := 3) k_fd_91_0_0_89 k_sz_89_4 rfl rfl) ?_
  refine sq 4 rfl rfl (Y_loadA (B := some ⟨b, 0, none⟩) (i := 0) (cs := [.int .i64 x.Num.A, .int .i64 x.Num.B, .int .i64 x.Num.C, .int .i64 x.Num.D, .int .i64 x.Exp]) (vs := [.int .i64 x.Num.A, .int .i64 x.Num.B, .int .i64 x.Num.C, .int .i64 x.Num.D]) k_ag_89 k_sz_89_4 rfl rfl (hS1.cf (i := 0) rfl) rfl rfl) ?_
  obtain ⟨r_1, hc, hF⟩ := bind_inv hF
  refine sc 5 rfl rfl (Yc_func (g := 175) (vs := [.agg #[.int .i64 x.Num.A, .int .i64 x.Num.B, .int .i64 x.Num.C, .int .i64 x.Num.D]]) k_call_175 rfl (mc rfl mn) (c_spec_l1Good x.Num _  (hS1.inn0 [] rfl) hc)) ?_
  rintro _ w_1 ⟨rfl, hd⟩
  have hS2 := hS1.out00 hd
  refine sq 6 rfl rfl (Y_move (v := .bool r_1) rfl rfl) ?_
  refine sgq 7 (B := r_1) (v := pt (some ⟨b, 0, none⟩) 4) rfl rfl (wt_t (gd_of (t := 6) (by kernel_rfl) rfl)) (fun hg => (Y_fieldAddr (B := some ⟨b, 0, none⟩) (i := 0) (s := 0) k_fd_91_1_4_3 k_sz_3_1 rfl rfl)) ?_
  refine sgq 8 (B := r_1) (v := .int .i64 x.Exp) rfl rfl (wt_t (gd_of (t := 6) (by kernel_rfl) rfl)) (fun hg1 => (Y_load1 (B := some ⟨b, 0, none⟩) (i := 4) (cs := [.int .i64 x.Num.A, .int .i64 x.Num.B, .int .i64 x.Num.C, .int .i64 x.Num.D, .int .i64 x.Exp]) (v := .int .i64 x.Exp) k_sc_3 rfl (gv_of (B := r_1) (v := pt (some ⟨b, 0, none⟩) 4) hg1) (hS2.cf (i := 0) rfl) rfl)) ?_
  obtain ⟨r_2, hc1, hF⟩ := bind_inv hF
  refine sgc 9 (B := r_1) (v := .bool r_2) (F := hS2.fn) rfl rfl (wt_t (gd_of (t := 6) (by kernel_rfl) rfl)) hS2 (fun hg2 => (Yc_func (g := 140) (vs := [.int .i64 x.Exp, .int .i64 0, .int .i64 60]) k_call_140 rfl (mc (gv_of (B := r_1) (v := .int .i64 x.Exp) hg2) (mc rfl (mc rfl mn))) (CV.mono (c_spec_l1In x.Exp 0 60 _  (hS2.inn0 [] rfl) (gb_inv hc1 hg2)) (by rintro _ _ ⟨rfl, h⟩; exact ⟨rfl, hS2.out00 h⟩)))) ?_
  rintro w_2 hS3
  have hS3 : ST _ _ w_2 _ _ := hS3
  refine sq 10 rfl rfl (Y_and (b := r_1) (z := r_2) rfl rfl rfl rfl) ?_
  refine sq 11 rfl rfl (Y_move (v := .bool (r_1 && r_2)) rfl rfl) ?_
  refine sgq 12 (B := (r_1 && r_2)) (v := pt (some ⟨b, 0, none⟩) 4) rfl rfl (wt_t (gd_of (t := 11) (by kernel_rfl) rfl)) (fun hg3 => (Y_fieldAddr (B := some ⟨b, 0, none⟩) (i := 0) (s := 0) k_fd_91_1_4_3 k_sz_3_1 rfl rfl)) ?_
  refine sgq 13 (B := (r_1 && r_2)) (v := .int .i64 x.Exp) rfl rfl (wt_t (gd_of (t := 11) (by kernel_rfl) rfl)) (fun hg4 => (Y_load1 (B := some ⟨b, 0, none⟩) (i := 4) (cs := [.int .i64 x.Num.A, .int .i64 x.Num.B, .int .i64 x.Num.C, .int .i64 x.Num.D, .int .i64 x.Exp]) (v := .int .i64 x.Exp) k_sc_3 rfl (gv_of (B := (r_1 && r_2)) (v := pt (some ⟨b, 0, none⟩) 4) hg4) (hS3.cf (i := 0) rfl) rfl)) ?_
  refine sgq 14 (B := (r_1 && r_2)) (v := .bool (x.Exp == 0)) rfl rfl (wt_t (gd_of (t := 11) (by kernel_rfl) rfl)) (fun hg5 => (Y_eq (k := .i64) (a := x.Exp) (b := 0) rfl (gv_of (B := (r_1 && r_2)) (v := .int .i64 x.Exp) hg5) rfl)) ?_
  refine sgq 15 (B := (r_1 && r_2)) (v := .bool (x.Exp == 0)) rfl rfl (wt_t (gd_of (t := 11) (by kernel_rfl) rfl)) (fun hg6 => (Y_move (v := .bool (x.Exp == 0)) rfl (gv_of (B := (r_1 && r_2)) (v := .bool (x.Exp == 0)) hg6))) ?_
  refine sgq 16 (B := ((r_1 && r_2) && (!(x.Exp == 0)))) (v := pt (some ⟨b, 0, none⟩) 0) rfl rfl (wt_gf (gd_of (t := 15) (by kernel_rfl) rfl)) (fun hg7 => (Y_fieldAddr (B := some ⟨b, 0, none⟩) (i := 0) (s := 3) k_fd_91_0_0_89 k_sz_89_4 rfl rfl)) ?_
  refine sgq 17 (B := ((r_1 && r_2) && (!(x.Exp == 0)))) (v := .agg #[.int .i64 x.Num.A, .int .i64 x.Num.B, .int .i64 x.Num.C, .int .i64 x.Num.D]) rfl rfl (wt_gf (gd_of (t := 15) (by kernel_rfl) rfl)) (fun hg8 => (Y_loadA (B := some ⟨b, 0, none⟩) (i := 0) (cs := [.int .i64 x.Num.A, .int .i64 x.Num.B, .int .i64 x.Num.C, .int .i64 x.Num.D, .int .i64 x.Exp]) (vs := [.int .i64 x.Num.A, .int .i64 x.Num.B, .int .i64 x.Num.C, .int .i64 x.Num.D]) k_ag_89 k_sz_89_4 rfl (gv_of (B := ((r_1 && r_2) && (!(x.Exp == 0)))) (v := pt (some ⟨b, 0, none⟩) 0) hg8) (hS3.cf (i := 0) rfl) rfl rfl)) ?_
  obtain ⟨r_3, hc2, hF⟩ := bind_inv hF
  refine sgc 18 (B := ((r_1 && r_2) && (!(x.Exp == 0)))) (v := .bool r_3) (F := hS3.fn) rfl rfl (wt_gf (gd_of (t := 15) (by kernel_rfl) rfl)) hS3 (fun hg9 => (Yc_func (g := 176) (vs := [.agg #[.int .i64 x.Num.A, .int .i64 x.Num.B, .int .i64 x.Num.C, .int .i64 x.Num.D]]) k_call_176 rfl (mc (gv_of (B := ((r_1 && r_2) && (!(x.Exp == 0)))) (v := .agg #[.int .i64 x.Num.A, .int .i64 x.Num.B, .int .i64 x.Num.C, .int .i64 x.Num.D]) hg9) mn) (CV.mono (c_spec_l1Even x.Num _  (hS3.inn0 [] rfl) (gb_inv hc2 hg9)) (by rintro _ _ ⟨rfl, h⟩; exact ⟨rfl, hS3.out00 h⟩)))) ?_
  rintro w_3 hS4
  have hS4 : ST _ _ w_3 _ _ := hS4
  refine sgq 19 (B := ((r_1 && r_2) && (!(x.Exp == 0)))) (v := .bool (!r_3)) rfl rfl (wt_gf (gd_of (t := 15) (by kernel_rfl) rfl)) (fun hg10 => (Y_not (p := r_3) rfl (gv_of (B := ((r_1 && r_2) && (!(x.Exp == 0)))) (v := .bool r_3) hg10))) ?_
  refine sgq 20 (B := (r_1 && r_2)) (v := .bool ((x.Exp == 0) || (!r_3))) rfl rfl (wt_t (gd_of (t := 11) (by kernel_rfl) rfl)) (fun hg11 => (Y_or (b := (x.Exp == 0)) (z := (!r_3)) rfl (gv_of (B := (r_1 && r_2)) (v := .bool (x.Exp == 0)) hg11) rfl (gv_and (B := (r_1 && r_2)) (C := (!(x.Exp == 0))) (v := .bool (!r_3)) hg11))) ?_
  refine sq 21 rfl rfl (Y_and (b := (r_1 && r_2)) (z := ((x.Exp == 0) || (!r_3))) rfl rfl rfl rfl) ?_
  refine sq 2 rfl rfl (Y_assign (v := .bool ((r_1 && r_2) && ((x.Exp == 0) || (!r_3)))) rfl rfl) ?_
  refine rw_nil ?_
  refine cw_ret ?_
  obtain rfl := some_inj hF
  exact ret1 Try.results124 (v1 := .bool ((r_1 && r_2) && ((x.Exp == 0) || (!r_3)))) (resAt_tmp rfl) ⟨rfl, (ST.subR (R' := []) (hS4.sel [] rfl rfl) (fun _ h => by cases h))⟩

theorem c_spec_l1Has (l : List Int) (n1 : Int) (B : Option Addr) (c n : Nat) (w0 : World) (hn : l.length = n) (hS : ST w0 [] w0 [] [⟨B, (l.flatMap encI)⟩]) {r_ : Bool} (hF : F_spec_l1Has l n1 = some r_) :
    CV Try.prog 198 #[.slice B n c, .int .i64 n1] w0 (fun v w' => v = .bool r_ ∧ ST w0 [] w' [] []) := by
  subst hn
  unfold F_spec_l1Has at hF
  refine cv_of_cw 17 Try.func198 rfl Try.ntmps198 rfl ?_
  refine cw_seq ?_
  refine cw_region ?_
  refine sq 4 rfl rfl (Y_assign (v := .bool false) rfl rfl) ?_
  refine rw_nil ?_
  refine cw_seq ?_
  refine cw_seq ?_
  refine cw_region ?_
  refine sq 7 rfl rfl (Y_move (v := .slice B l.length c) rfl rfl) ?_
  refine sq 8 rfl rfl (Y_len (B := B) (m := l.length) (c := c) k_sl_34_3 rfl rfl) ?_
  refine sq 9 rfl rfl (Y_move (v := .int .i64 0) rfl rfl) ?_
  refine rw_nil ?_
  obtain ⟨hN, hF⟩ := chk_inv hF
  obtain ⟨z, hz, hF1⟩ := bind_inv hF
  refine cw_block ?_
  refine cw_loop (fun k f w => ∃ (i : Nat), FF f [(1, .int .i64 n1), (7, .slice B l.length c), (8, .int .i64 (l.length : Int)), (9, .int .i64 (i : Int))] ∧ ST w0 [] w [] [⟨B, (l.flatMap encI)⟩] ∧ i + k = l.length ∧ forX (F_spec_l1Has_l1 l n1) k i () = some z) l.length ⟨0, (FF.cons rfl (FF.cons rfl (FF.cons rfl (FF.cons rfl FF.nil)))), (hS.sel [] rfl rfl), Nat.zero_add _, hz⟩ ?_
  rintro k_ f w ⟨i, hf, hS1, hik, hL⟩
  refine cw_seq ?_
  refine cw_region ?_
  refine sq 10 rfl rfl (Y_lt (k := .i64) (a := (i : Int)) (b := (l.length : Int)) rfl (hf.get 9 3 rfl) (hf.get 8 2 rfl)) ?_
  refine rw_nil ?_
  refine cw_seq ?_
  refine cw_cond (b := (decide ((i : Int) < (l.length : Int)))) rfl (fun hlt => ?_) (fun hlt => ?_)
  · skip
    have hlt1 : i < l.length := by have h := of_decide_eq_true hlt; omega
    obtain ⟨k_1, rfl⟩ : ∃ k2, k_ = k2 + 1 := ⟨k_ - 1, by omega⟩
    obtain ⟨y, hb, hL1⟩ := forX_go hL
    unfold F_spec_l1Has_l1 at hb
    refine cw_skip ?_
    refine cw_seq ?_
    refine cw_block ?_
    refine cw_seq ?_
    refine cw_region ?_
    obtain ⟨x, hx, hb⟩ := bind_inv hb
    refine sq 11 rfl rfl (Y_index (B := B) (m := l.length) (c := c) (k := .i64) (i := (i : Int)) k_sl_34_3 k_sz_3_1 rfl (hf.get 7 1 rfl) (hf.get 9 3 rfl) (gi_isSome encI_len rfl (hS1.rf (i := 0) rfl) hx) (getI_nn hx) (getI_ltI hx rfl)) ?_
    refine sq 12 rfl rfl (Y_load1 (B := B) (i := (i : Int).toNat * 1) (cs := (l.flatMap encI)) (v := .int .i64 x) k_sc_3 rfl rfl (hS1.rf (i := 0) rfl) (gi_at0 encI_len hx rfl)) ?_
    refine sq 6 rfl rfl (Y_assign (v := .int .i64 x) rfl rfl) ?_
    refine rw_nil ?_
    refine cw_seq ?_
    refine cw_region ?_
    refine sq 13 rfl rfl (Y_move (v := .int .i64 x) rfl rfl) ?_
    refine sq 14 rfl rfl (Y_move (v := .int .i64 n1) rfl (hf.get 1 0 rfl)) ?_
    refine sq 15 rfl rfl (Y_eq (k := .i64) (a := x) (b := n1) rfl rfl rfl) ?_
    refine rw_nil ?_
    refine cw_cond (b := (x == n1)) rfl (fun hb1 => ?_) (fun hb1 => ?_)
    · skip
      have hF2 := ct hb hb1
      refine cw_seq ?_
      refine cw_region ?_
      refine sq 4 rfl rfl (Y_assign (v := .bool true) rfl rfl) ?_
      refine rw_nil ?_
      refine cw_ret ?_
      obtain rfl := some_inj hF2
      obtain rfl := some_inj hL1
      obtain rfl := some_inj hF1
      exact ret1 Try.results198 (v1 := .bool true) (resAt_tmp rfl) ⟨rfl, (ST.subR (R' := []) (hS1.sel [] rfl rfl) (fun _ h => by cases h))⟩
    · skip
      have hF3 := cf' hb hb1
      refine cw_skip ?_
      refine cw_region ?_
      refine sq 16 rfl rfl (Y_add (k := .i64) (a := (i : Int)) (b := 1) rfl (hf.get 9 3 rfl) rfl) ?_
      refine sq 9 rfl rfl (Y_move (v := .int .i64 (IntKind.i64.wrap ((i : Int) + 1))) rfl rfl) ?_
      refine rw_nil ?_
      obtain rfl := some_inj hF3
      exact ⟨k_1, Nat.lt_succ_self _, i + 1, (FF.cons (hf.get 1 0 rfl) (FF.cons (hf.get 7 1 rfl) (FF.cons (hf.get 8 2 rfl) (FF.cons (congrArg (Value.int .i64) (wr_succ hlt1 hN)) FF.nil)))), (hS1.sel [] rfl rfl), (by omega), hL1⟩
  · skip
    obtain rfl : k_ = 0 := by have h := of_decide_eq_false hlt; omega
    refine cw_exit rfl ?_
    obtain rfl := some_inj hL
    refine cw_seq ?_
    refine cw_region ?_
    refine sq 4 rfl rfl (Y_assign (v := .bool false) rfl rfl) ?_
    refine rw_nil ?_
    refine cw_ret ?_
    obtain rfl := some_inj hF1
    exact ret1 Try.results198 (v1 := .bool false) (resAt_tmp rfl) ⟨rfl, (ST.subR (R' := []) (hS1.sel [] rfl rfl) (fun _ h => by cases h))⟩

theorem c_spec_l3Dim (n : Int)  (w0 : World)  (hS : ST w0 [] w0 [] []) {r_ : Bool} (hF : F_spec_l3Dim n = some r_) :
    CV Try.prog 152 #[.int .i64 n] w0 (fun v w' => v = .bool r_ ∧ ST w0 [] w' [] []) := by
  unfold F_spec_l3Dim at hF
  refine cv_of_cw 6 Try.func152 rfl Try.ntmps152 rfl ?_
  refine cw_seq ?_
  refine cw_region ?_
  refine sq 2 rfl rfl (Y_assign (v := .bool false) rfl rfl) ?_
  refine rw_nil ?_
  refine cw_seq ?_
  refine cw_region ?_
  refine ss 3 rfl rfl (Ys_bslice (s := 1) (len := 6) (vs := [(0, .int .i64 1), (1, .int .i64 2), (2, .int .i64 4), (3, .int .i64 8), (4, .int .i64 16), (5, .int .i64 32)]) (cs := [.int .i64 1, .int .i64 2, .int .i64 4, .int .i64 8, .int .i64 16, .int .i64 32]) (zs := [.int .i64 0, .int .i64 0, .int .i64 0, .int .i64 0, .int .i64 0, .int .i64 0]) (m := 6) hS k_sl_34_3 k_sz_3_1 k_zc_3 rfl (mpc rfl (mpc rfl (mpc rfl (mpc rfl (mpc rfl (mpc rfl mpn)))))) rfl rfl rfl rfl rfl rfl) ?_
  rintro _ w_ ⟨b, rfl, hS1⟩
  refine sq 4 rfl rfl (Y_move (v := .int .i64 n) rfl rfl) ?_
  obtain ⟨r_1, hc, hF⟩ := bind_inv hF
  refine sc 5 rfl rfl (Yc_func (g := 198) (vs := [.slice (some ⟨b, 0, none⟩) 6 6, .int .i64 n]) k_call_198 rfl (mc rfl (mc rfl mn)) (c_spec_l1Has [1, 2, 4, 8, 16, 32] n (some ⟨b, 0, none⟩) 6 6 _ rfl (hS1.inn0 [(false, 0)] rfl) hc)) ?_
  rintro _ w_1 ⟨rfl, hd⟩
  have hS2 := hS1.out00 hd
  refine sq 2 rfl rfl (Y_assign (v := .bool r_1) rfl rfl) ?_
  refine rw_nil ?_
  refine cw_ret ?_
  obtain rfl := some_inj hF
  exact ret1 Try.results152 (v1 := .bool r_1) (resAt_tmp rfl) ⟨rfl, (ST.subR (R' := []) (hS2.sel [] rfl rfl) (fun _ h => by cases h))⟩

theorem c_spec_l3Good (m : TMatrix) (B : Option Addr) (c n : Nat) (w0 : World) (hn : m.Cells.length = n) (hS : ST w0 [] w0 [] [⟨B, (m.Cells.flatMap enc_Dyadic)⟩]) {r_ : Bool} (hF : F_spec_l3Good m = some r_) :
    CV Try.prog 94 #[.agg #[.int .i64 m.Rows, .int .i64 m.Cols, .slice B n c]] w0 (fun v w' => v = .bool r_ ∧ ST w0 [] w' [] []) := by
  subst hn
  unfold F_spec_l3Good at hF
  refine cv_of_cw 37 Try.func94 rfl Try.ntmps94 rfl ?_
  refine cw_seq ?_
  refine cw_region ?_
  refine ss 1 rfl rfl (Ys_box (T := 62) (v := .agg #[.int .i64 m.Rows, .int .i64 m.Cols, .slice B m.Cells.length c]) (cs := [.int .i64 m.Rows, .int .i64 m.Cols, .slice B m.Cells.length c]) (m := 3) hS rfl rfl rfl rfl) ?_
  rintro _ w_ ⟨b, rfl, hS1⟩
  refine sq 2 rfl rfl (Y_assign (v := .bool false) rfl rfl) ?_
  refine rw_nil ?_
  refine cw_seq ?_
  refine cw_seq ?_
  refine cw_region ?_
  refine sq 5 rfl rfl (Y_fieldAddr (B := some ⟨b, 0, none⟩) (i := 0) (s := 0) k_fd_62_0_0_3 k_sz_3_1 rfl rfl) ?_
  refine sq 6 rfl rfl (Y_load1 (B := some ⟨b, 0, none⟩) (i := 0) (cs := [.int .i64 m.Rows, .int .i64 m.Cols, .slice B m.Cells.length c]) (v := .int .i64 m.Rows) k_sc_3 rfl rfl (hS1.cf (i := 0) rfl) rfl) ?_
  obtain ⟨r_1, hc, hF⟩ := bind_inv hF
  refine sc 7 rfl rfl (Yc_func (g := 152) (vs := [.int .i64 m.Rows]) k_call_152 rfl (mc rfl mn) (c_spec_l3Dim m.Rows _  (hS1.inn0 [] rfl) hc)) ?_
  rintro _ w_1 ⟨rfl, hd⟩
  have hS2 := hS1.out00 hd
  refine sq 8 rfl rfl (Y_not (p := r_1) rfl rfl) ?_
  refine sq 9 rfl rfl (Y_move (v := .bool (!r_1)) rfl rfl) ?_
  refine sgq 10 (B := (!(!r_1))) (v := pt (some ⟨b, 0, none⟩) 1) rfl rfl (wt_f (gd_of (t := 9) (by kernel_rfl) rfl)) (fun hg => (Y_fieldAddr (B := some ⟨b, 0, none⟩) (i := 0) (s := 0) k_fd_62_1_1_3 k_sz_3_1 rfl rfl)) ?_
  refine sgq 11 (B := (!(!r_1))) (v := .int .i64 m.Cols) rfl rfl (wt_f (gd_of (t := 9) (by kernel_rfl) rfl)) (fun hg1 => (Y_load1 (B := some ⟨b, 0, none⟩) (i := 1) (cs := [.int .i64 m.Rows, .int .i64 m.Cols, .slice B m.Cells.length c]) (v := .int .i64 m.Cols) k_sc_3 rfl (gv_of (B := (!(!r_1))) (v := pt (some ⟨b, 0, none⟩) 1) hg1) (hS2.cf (i := 0) rfl) rfl)) ?_
  obtain ⟨r_2, hc1, hF⟩ := bind_inv hF
  refine sgc 12 (B := (!(!r_1))) (v := .bool r_2) (F := hS2.fn) rfl rfl (wt_f (gd_of (t := 9) (by kernel_rfl) rfl)) hS2 (fun hg2 => (Yc_func (g := 152) (vs := [.int .i64 m.Cols]) k_call_152 rfl (mc (gv_of (B := (!(!r_1))) (v := .int .i64 m.Cols) hg2) mn) (CV.mono (c_spec_l3Dim m.Cols _  (hS2.inn0 [] rfl) (gb_inv hc1 hg2)) (by rintro _ _ ⟨rfl, h⟩; exact ⟨rfl, hS2.out00 h⟩)))) ?_
  rintro w_2 hS3
  have hS3 : ST _ _ w_2 _ _ := hS3
  refine sgq 13 (B := (!(!r_1))) (v := .bool (!r_2)) rfl rfl (wt_f (gd_of (t := 9) (by kernel_rfl) rfl)) (fun hg3 => (Y_not (p := r_2) rfl (gv_of (B := (!(!r_1))) (v := .bool r_2) hg3))) ?_
  refine sq 14 rfl rfl (Y_or (b := (!r_1)) (z := (!r_2)) rfl rfl rfl rfl) ?_
  refine sq 15 rfl rfl (Y_move (v := .bool ((!r_1) || (!r_2))) rfl rfl) ?_
  refine sgq 16 (B := (!((!r_1) || (!r_2)))) (v := pt (some ⟨b, 0, none⟩) 2) rfl rfl (wt_f (gd_of (t := 15) (by kernel_rfl) rfl)) (fun hg4 => (Y_fieldAddr (B := some ⟨b, 0, none⟩) (i := 0) (s := 0) k_fd_62_2_2_27 k_sz_27_1 rfl rfl)) ?_
  refine sgq 17 (B := (!((!r_1) || (!r_2)))) (v := .slice B m.Cells.length c) rfl rfl (wt_f (gd_of (t := 15) (by kernel_rfl) rfl)) (fun hg5 => (Y_load1 (B := some ⟨b, 0, none⟩) (i := 2) (cs := [.int .i64 m.Rows, .int .i64 m.Cols, .slice B m.Cells.length c]) (v := .slice B m.Cells.length c) k_sc_27 rfl (gv_of (B := (!((!r_1) || (!r_2)))) (v := pt (some ⟨b, 0, none⟩) 2) hg5) (hS3.cf (i := 0) rfl) rfl)) ?_
  refine sgq 18 (B := (!((!r_1) || (!r_2)))) (v := .int .i64 (m.Cells.length : Int)) rfl rfl (wt_f (gd_of (t := 15) (by kernel_rfl) rfl)) (fun hg6 => (Y_len (B := B) (m := m.Cells.length) (c := c) k_sl_27_91 rfl (gv_of (B := (!((!r_1) || (!r_2)))) (v := .slice B m.Cells.length c) hg6))) ?_
  refine sgq 19 (B := (!((!r_1) || (!r_2)))) (v := pt (some ⟨b, 0, none⟩) 0) rfl rfl (wt_f (gd_of (t := 15) (by kernel_rfl) rfl)) (fun hg7 => (Y_fieldAddr (B := some ⟨b, 0, none⟩) (i := 0) (s := 0) k_fd_62_0_0_3 k_sz_3_1 rfl rfl)) ?_
  refine sgq 20 (B := (!((!r_1) || (!r_2)))) (v := .int .i64 m.Rows) rfl rfl (wt_f (gd_of (t := 15) (by kernel_rfl) rfl)) (fun hg8 => (Y_load1 (B := some ⟨b, 0, none⟩) (i := 0) (cs := [.int .i64 m.Rows, .int .i64 m.Cols, .slice B m.Cells.length c]) (v := .int .i64 m.Rows) k_sc_3 rfl (gv_of (B := (!((!r_1) || (!r_2)))) (v := pt (some ⟨b, 0, none⟩) 0) hg8) (hS3.cf (i := 0) rfl) rfl)) ?_
  refine sgq 21 (B := (!((!r_1) || (!r_2)))) (v := pt (some ⟨b, 0, none⟩) 1) rfl rfl (wt_f (gd_of (t := 15) (by kernel_rfl) rfl)) (fun hg9 => (Y_fieldAddr (B := some ⟨b, 0, none⟩) (i := 0) (s := 0) k_fd_62_1_1_3 k_sz_3_1 rfl rfl)) ?_
  refine sgq 22 (B := (!((!r_1) || (!r_2)))) (v := .int .i64 m.Cols) rfl rfl (wt_f (gd_of (t := 15) (by kernel_rfl) rfl)) (fun hg10 => (Y_load1 (B := some ⟨b, 0, none⟩) (i := 1) (cs := [.int .i64 m.Rows, .int .i64 m.Cols, .slice B m.Cells.length c]) (v := .int .i64 m.Cols) k_sc_3 rfl (gv_of (B := (!((!r_1) || (!r_2)))) (v := pt (some ⟨b, 0, none⟩) 1) hg10) (hS3.cf (i := 0) rfl) rfl)) ?_
  refine sgq 23 (B := (!((!r_1) || (!r_2)))) (v := .int .i64 (IntKind.i64.wrap (m.Rows * m.Cols))) rfl rfl (wt_f (gd_of (t := 15) (by kernel_rfl) rfl)) (fun hg11 => (Y_mul (k := .i64) (a := m.Rows) (b := m.Cols) rfl (gv_of (B := (!((!r_1) || (!r_2)))) (v := .int .i64 m.Rows) hg11) (gv_of (B := (!((!r_1) || (!r_2)))) (v := .int .i64 m.Cols) hg11))) ?_
  refine sgq 24 (B := (!((!r_1) || (!r_2)))) (v := .bool ((m.Cells.length : Int) != (IntKind.i64.wrap (m.Rows * m.Cols)))) rfl rfl (wt_f (gd_of (t := 15) (by kernel_rfl) rfl)) (fun hg12 => (Y_ne (k := .i64) (a := (m.Cells.length : Int)) (b := (IntKind.i64.wrap (m.Rows * m.Cols))) rfl (gv_of (B := (!((!r_1) || (!r_2)))) (v := .int .i64 (m.Cells.length : Int)) hg12) (gv_of (B := (!((!r_1) || (!r_2)))) (v := .int .i64 (IntKind.i64.wrap (m.Rows * m.Cols))) hg12))) ?_
  refine sq 25 rfl rfl (Y_or (b := ((!r_1) || (!r_2))) (z := ((m.Cells.length : Int) != (IntKind.i64.wrap (m.Rows * m.Cols)))) rfl rfl rfl rfl) ?_
  refine rw_nil ?_
  refine cw_cond (b := (((!r_1) || (!r_2)) || ((m.Cells.length : Int) != (IntKind.i64.wrap (m.Rows * m.Cols))))) rfl (fun hb => ?_) (fun hb => ?_)
  · skip
    have hF1 := ct hF hb
    refine cw_seq ?_
    refine cw_region ?_
    refine sq 2 rfl rfl (Y_assign (v := .bool false) rfl rfl) ?_
    refine rw_nil ?_
    refine cw_ret ?_
    obtain rfl := some_inj hF1
    exact ret1 Try.results94 (v1 := .bool false) (resAt_tmp rfl) ⟨rfl, (ST.subR (R' := []) (hS3.sel [] rfl rfl) (fun _ h => by cases h))⟩
  · skip
    have hF2 := cf' hF hb
    refine cw_skip ?_
    refine cw_seq ?_
    refine cw_seq ?_
    refine cw_region ?_
    refine sq 26 rfl rfl (Y_fieldAddr (B := some ⟨b, 0, none⟩) (i := 0) (s := 0) k_fd_62_2_2_27 k_sz_27_1 rfl rfl) ?_
    refine sq 27 rfl rfl (Y_load1 (B := some ⟨b, 0, none⟩) (i := 2) (cs := [.int .i64 m.Rows, .int .i64 m.Cols, .slice B m.Cells.length c]) (v := .slice B m.Cells.length c) k_sc_27 rfl rfl (hS3.cf (i := 0) rfl) rfl) ?_
    refine sq 28 rfl rfl (Y_len (B := B) (m := m.Cells.length) (c := c) k_sl_27_91 rfl rfl) ?_
    refine sq 29 rfl rfl (Y_move (v := .int .i64 0) rfl rfl) ?_
    refine rw_nil ?_
    obtain ⟨hN, hF2⟩ := chk_inv hF2
    obtain ⟨z, hz, hF3⟩ := bind_inv hF2
    refine cw_block ?_
    refine cw_loop (fun k f w => ∃ (i : Nat), FF f [(27, .slice B m.Cells.length c), (28, .int .i64 (m.Cells.length : Int)), (29, .int .i64 (i : Int))] ∧ ST w0 [] w [] [⟨B, (m.Cells.flatMap enc_Dyadic)⟩] ∧ i + k = m.Cells.length ∧ forX (F_spec_l3Good_l1 m) k i () = some z) m.Cells.length ⟨0, (FF.cons rfl (FF.cons rfl (FF.cons rfl FF.nil))), (hS3.sel [] rfl rfl), Nat.zero_add _, hz⟩ ?_
    rintro k_ f w ⟨i, hf, hS4, hik, hL⟩
    refine cw_seq ?_
    refine cw_region ?_
    refine sq 30 rfl rfl (Y_lt (k := .i64) (a := (i : Int)) (b := (m.Cells.length : Int)) rfl (hf.get 29 2 rfl) (hf.get 28 1 rfl)) ?_
    refine rw_nil ?_
    refine cw_seq ?_
    refine cw_cond (b := (decide ((i : Int) < (m.Cells.length : Int)))) rfl (fun hlt => ?_) (fun hlt => ?_)
    · skip
      have hlt1 : i < m.Cells.length := by have h := of_decide_eq_true hlt; omega
      obtain ⟨k_1, rfl⟩ : ∃ k2, k_ = k2 + 1 := ⟨k_ - 1, by omega⟩
      obtain ⟨y, hb1, hL1⟩ := forX_go hL
      unfold F_spec_l3Good_l1 at hb1
      refine cw_skip ?_
      refine cw_seq ?_
      refine cw_block ?_
      refine cw_seq ?_
      refine cw_region ?_
      obtain ⟨x, hx, hb1⟩ := bind_inv hb1
      refine sq 31 rfl rfl (Y_index (B := B) (m := m.Cells.length) (c := c) (k := .i64) (i := (i : Int)) k_sl_27_91 k_sz_91_5 rfl (hf.get 27 0 rfl) (hf.get 29 2 rfl) (gi_isSome enc_Dyadic_len rfl (hS4.rf (i := 0) rfl) hx) (getI_nn hx) (getI_ltI hx rfl)) ?_
      refine sq 32 rfl rfl (Y_loadA (B := B) (i := (i : Int).toNat * 5) (cs := (m.Cells.flatMap enc_Dyadic)) (vs := [.int .i64 x.Num.A, .int .i64 x.Num.B, .int .i64 x.Num.C, .int .i64 x.Num.D, .int .i64 x.Exp]) k_ag_91 k_sz_91_5 rfl rfl (hS4.rf (i := 0) rfl) (enc_Dyadic_len x) (gi_seg enc_Dyadic_len hx)) ?_
      refine ss 4 rfl rfl (Ys_alloc (T := 91) (cs := [.int .i64 0, .int .i64 0, .int .i64 0, .int .i64 0, .int .i64 0]) (m := 5) hS4 k_zero_91 rfl rfl rfl) ?_
      rintro _ w_3 ⟨b1, rfl, hS5⟩
      refine ss0 rfl rfl (Ys_store (i := 0) (s := 5) (B := some ⟨b1, 0, none⟩) (T' := 91) (v := .agg #[.int .i64 x.Num.A, .int .i64 x.Num.B, .int .i64 x.Num.C, .int .i64 x.Num.D, .int .i64 x.Exp]) (vs := [.int .i64 x.Num.A, .int .i64 x.Num.B, .int .i64 x.Num.C, .int .i64 x.Num.D, .int .i64 x.Exp]) (k := 0) (cs' := [.int .i64 x.Num.A, .int .i64 x.Num.B, .int .i64 x.Num.C, .int .i64 x.Num.D, .int .i64 x.Exp]) hS5 k_sz_91_5 rfl rfl rfl rfl rfl rfl rfl (Nat.le_of_ble_eq_true rfl) rfl rfl) ?_
      rintro _ w_4 ⟨rfl, hS6⟩
      refine rw_nil ?_
      refine cw_seq ?_
      refine cw_region ?_
      refine sq 33 rfl rfl (Y_loadA (B := some ⟨b1, 0, none⟩) (i := 0) (cs := [.int .i64 x.Num.A, .int .i64 x.Num.B, .int .i64 x.Num.C, .int .i64 x.Num.D, .int .i64 x.Exp]) (vs := [.int .i64 x.Num.A, .int .i64 x.Num.B, .int .i64 x.Num.C, .int .i64 x.Num.D, .int .i64 x.Exp]) k_ag_91 k_sz_91_5 rfl rfl (hS6.cf (i := 0) rfl) rfl rfl) ?_
      obtain ⟨r_3, hc2, hb1⟩ := bind_inv hb1
      refine sc 34 rfl rfl (Yc_func (g := 124) (vs := [.agg #[.int .i64 x.Num.A, .int .i64 x.Num.B, .int .i64 x.Num.C, .int .i64 x.Num.D, .int .i64 x.Exp]]) k_call_124 rfl (mc rfl mn) (c_spec_l2Good x _  (hS6.inn0 [] rfl) hc2)) ?_
      rintro _ w_5 ⟨rfl, hd1⟩
      have hS7 := hS6.out00 hd1
      refine sq 35 rfl rfl (Y_not (p := r_3) rfl rfl) ?_
      refine rw_nil ?_
      refine cw_cond (b := (!r_3)) rfl (fun hb2 => ?_) (fun hb2 => ?_)
      · skip
        have hF4 := ct hb1 hb2
        refine cw_seq ?_
        refine cw_region ?_
        refine sq 2 rfl rfl (Y_assign (v := .bool false) rfl rfl) ?_
        refine rw_nil ?_
        refine cw_ret ?_
        obtain rfl := some_inj hF4
        obtain rfl := some_inj hL1
        obtain rfl := some_inj hF3
        exact ret1 Try.results94 (v1 := .bool false) (resAt_tmp rfl) ⟨rfl, (ST.subR (R' := []) (hS7.sel [] rfl rfl) (fun _ h => by cases h))⟩
      · skip
        have hF5 := cf' hb1 hb2
        refine cw_skip ?_
        refine cw_region ?_
        refine sq 36 rfl rfl (Y_add (k := .i64) (a := (i : Int)) (b := 1) rfl (hf.get 29 2 rfl) rfl) ?_
        refine sq 29 rfl rfl (Y_move (v := .int .i64 (IntKind.i64.wrap ((i : Int) + 1))) rfl rfl) ?_
        refine rw_nil ?_
        obtain rfl := some_inj hF5
        exact ⟨k_1, Nat.lt_succ_self _, i + 1, (FF.cons (hf.get 27 0 rfl) (FF.cons (hf.get 28 1 rfl) (FF.cons (congrArg (Value.int .i64) (wr_succ hlt1 hN)) FF.nil))), (hS7.sel [] rfl rfl), (by omega), hL1⟩
    · skip
      obtain rfl : k_ = 0 := by have h := of_decide_eq_false hlt; omega
      refine cw_exit rfl ?_
      obtain rfl := some_inj hL
      refine cw_seq ?_
      refine cw_region ?_
      refine sq 2 rfl rfl (Y_assign (v := .bool true) rfl rfl) ?_
      refine rw_nil ?_
      refine cw_ret ?_
      obtain rfl := some_inj hF3
      exact ret1 Try.results94 (v1 := .bool true) (resAt_tmp rfl) ⟨rfl, (ST.subR (R' := []) (hS4.sel [] rfl rfl) (fun _ h => by cases h))⟩

theorem c_spec_l1Root (x : TRing)  (w0 : World)  (hS : ST w0 [] w0 [] []) {r_ : TRing} (hF : F_spec_l1Root x = some r_) :
    CV Try.prog 180 #[.agg #[.int .i64 x.A, .int .i64 x.B, .int .i64 x.C, .int .i64 x.D]] w0 (fun v w' => v = .agg #[.int .i64 r_.A, .int .i64 r_.B, .int .i64 r_.C, .int .i64 r_.D] ∧ ST w0 [] w' [] []) := by
  unfold F_spec_l1Root at hF
  refine cv_of_cw 24 Try.func180 rfl Try.ntmps180 rfl ?_
  refine cw_seq ?_
  refine cw_region ?_
  refine ss 1 rfl rfl (Ys_box (T := 89) (v := .agg #[.int .i64 x.A, .int .i64 x.B, .int .i64 x.C, .int .i64 x.D]) (cs := [.int .i64 x.A, .int .i64 x.B, .int .i64 x.C, .int .i64 x.D]) (m := 4) hS rfl rfl rfl rfl) ?_
  rintro _ w_ ⟨b, rfl, hS1⟩
  refine ss 2 rfl rfl (Ys_alloc (T := 89) (cs := [.int .i64 0, .int .i64 0, .int .i64 0, .int .i64 0]) (m := 4) hS1 k_zero_89 rfl rfl rfl) ?_
  rintro _ w_1 ⟨b1, rfl, hS2⟩
  have hS2 : ST w0 [] _ [⟨some ⟨b, 0, none⟩, 89, [.int .i64 x.A, .int .i64 x.B, .int .i64 x.C, .int .i64 x.D], 4⟩, ⟨some ⟨b1, 0, none⟩, 89, [.int .i64 0, .int .i64 0, .int .i64 0, .int .i64 0], 4⟩] [] := hS2
  refine rw_nil ?_
  refine cw_seq ?_
  refine cw_region ?_
  refine sq 3 rfl rfl (Y_fieldAddr (B := some ⟨b, 0, none⟩) (i := 0) (s := 0) k_fd_89_1_1_3 k_sz_3_1 rfl rfl) ?_
  refine sq 4 rfl rfl (Y_load1 (B := some ⟨b, 0, none⟩) (i := 1) (cs := [.int .i64 x.A, .int .i64 x.B, .int .i64 x.C, .int .i64 x.D]) (v := .int .i64 x.B) k_sc_3 rfl rfl (hS2.cf (i := 0) rfl) rfl) ?_
  refine sq 5 rfl rfl (Y_fieldAddr (B := some ⟨b, 0, none⟩) (i := 0) (s := 0) k_fd_89_3_3_3 k_sz_3_1 rfl rfl) ?_
  refine sq 6 rfl rfl (Y_load1 (B := some ⟨b, 0, none⟩) (i := 3) (cs := [.int .i64 x.A, .int .i64 x.B, .int .i64 x.C, .int .i64 x.D]) (v := .int .i64 x.D) k_sc_3 rfl rfl (hS2.cf (i := 0) rfl) rfl) ?_
  refine sq 7 rfl rfl (Y_sub (k := .i64) (a := x.B) (b := x.D) rfl rfl rfl) ?_
  refine sq 8 rfl rfl (Y_fieldAddr (B := some ⟨b, 0, none⟩) (i := 0) (s := 0) k_fd_89_0_0_3 k_sz_3_1 rfl rfl) ?_
  refine sq 9 rfl rfl (Y_load1 (B := some ⟨b, 0, none⟩) (i := 0) (cs := [.int .i64 x.A, .int .i64 x.B, .int .i64 x.C, .int .i64 x.D]) (v := .int .i64 x.A) k_sc_3 rfl rfl (hS2.cf (i := 0) rfl) rfl) ?_
  refine sq 10 rfl rfl (Y_fieldAddr (B := some ⟨b, 0, none⟩) (i := 0) (s := 0) k_fd_89_2_2_3 k_sz_3_1 rfl rfl) ?_
  refine sq 11 rfl rfl (Y_load1 (B := some ⟨b, 0, none⟩) (i := 2) (cs := [.int .i64 x.A, .int .i64 x.B, .int .i64 x.C, .int .i64 x.D]) (v := .int .i64 x.C) k_sc_3 rfl rfl (hS2.cf (i := 0) rfl) rfl) ?_
  refine sq 12 rfl rfl (Y_add (k := .i64) (a := x.A) (b := x.C) rfl rfl rfl) ?_
  refine sq 13 rfl rfl (Y_fieldAddr (B := some ⟨b, 0, none⟩) (i := 0) (s := 0) k_fd_89_1_1_3 k_sz_3_1 rfl rfl) ?_
  refine sq 14 rfl rfl (Y_load1 (B := some ⟨b, 0, none⟩) (i := 1) (cs := [.int .i64 x.A, .int .i64 x.B, .int .i64 x.C, .int .i64 x.D]) (v := .int .i64 x.B) k_sc_3 rfl rfl (hS2.cf (i := 0) rfl) rfl) ?_
  refine sq 15 rfl rfl (Y_fieldAddr (B := some ⟨b, 0, none⟩) (i := 0) (s := 0) k_fd_89_3_3_3 k_sz_3_1 rfl rfl) ?_
  refine sq 16 rfl rfl (Y_load1 (B := some ⟨b, 0, none⟩) (i := 3) (cs := [.int .i64 x.A, .int .i64 x.B, .int .i64 x.C, .int .i64 x.D]) (v := .int .i64 x.D) k_sc_3 rfl rfl (hS2.cf (i := 0) rfl) rfl) ?_
  refine sq 17 rfl rfl (Y_add (k := .i64) (a := x.B) (b := x.D) rfl rfl rfl) ?_
  refine sq 18 rfl rfl (Y_fieldAddr (B := some ⟨b, 0, none⟩) (i := 0) (s := 0) k_fd_89_2_2_3 k_sz_3_1 rfl rfl) ?_
  refine sq 19 rfl rfl (Y_load1 (B := some ⟨b, 0, none⟩) (i := 2) (cs := [.int .i64 x.A, .int .i64 x.B, .int .i64 x.C, .int .i64 x.D]) (v := .int .i64 x.C) k_sc_3 rfl rfl (hS2.cf (i := 0) rfl) rfl) ?_
  refine sq 20 rfl rfl (Y_fieldAddr (B := some ⟨b, 0, none⟩) (i := 0) (s := 0) k_fd_89_0_0_3 k_sz_3_1 rfl rfl) ?_
  refine sq 21 rfl rfl (Y_load1 (B := some ⟨b, 0, none⟩) (i := 0) (cs := [.int .i64 x.A, .int .i64 x.B, .int .i64 x.C, .int .i64 x.D]) (v := .int .i64 x.A) k_sc_3 rfl rfl (hS2.cf (i := 0) rfl) rfl) ?_
  refine sq 22 rfl rfl (Y_sub (k := .i64) (a := x.C) (b := x.A) rfl rfl rfl) ?_
  refine sq 23 rfl rfl (Y_buildS (zs := [.int .i64 0, .int .i64 0, .int .i64 0, .int .i64 0]) (vs := [(0, .int .i64 (IntKind.i64.wrap (x.B - x.D))), (1, .int .i64 (IntKind.i64.wrap (x.A + x.C))), (2, .int .i64 (IntKind.i64.wrap (x.B + x.D))), (3, .int .i64 (IntKind.i64.wrap (x.C - x.A)))]) (cs := [.int .i64 (IntKind.i64.wrap (x.B - x.D)), .int .i64 (IntKind.i64.wrap (x.A + x.C)), .int .i64 (IntKind.i64.wrap (x.B + x.D)), .int .i64 (IntKind.i64.wrap (x.C - x.A))]) k_pl_89 k_zero_89 rfl (mpc rfl (mpc rfl (mpc rfl (mpc rfl mpn)))) rfl) ?_
  refine ss0 rfl rfl (Ys_store (i := 1) (s := 4) (B := some ⟨b1, 0, none⟩) (T' := 89) (v := .agg #[.int .i64 (IntKind.i64.wrap (x.B - x.D)), .int .i64 (IntKind.i64.wrap (x.A + x.C)), .int .i64 (IntKind.i64.wrap (x.B + x.D)), .int .i64 (IntKind.i64.wrap (x.C - x.A))]) (vs := [.int .i64 (IntKind.i64.wrap (x.B - x.D)), .int .i64 (IntKind.i64.wrap (x.A + x.C)), .int .i64 (IntKind.i64.wrap (x.B + x.D)), .int .i64 (IntKind.i64.wrap (x.C - x.A))]) (k := 0) (cs' := [.int .i64 (IntKind.i64.wrap (x.B - x.D)), .int .i64 (IntKind.i64.wrap (x.A + x.C)), .int .i64 (IntKind.i64.wrap (x.B + x.D)), .int .i64 (IntKind.i64.wrap (x.C - x.A))]) hS2 k_sz_89_4 rfl rfl rfl rfl rfl rfl rfl (Nat.le_of_ble_eq_true rfl) rfl rfl) ?_
  rintro _ w_2 ⟨rfl, hS3⟩
  have hS3 : ST w0 [] _ [⟨some ⟨b, 0, none⟩, 89, [.int .i64 x.A, .int .i64 x.B, .int .i64 x.C, .int .i64 x.D], 4⟩, ⟨some ⟨b1, 0, none⟩, 89, [.int .i64 (IntKind.i64.wrap (x.B - x.D)), .int .i64 (IntKind.i64.wrap (x.A + x.C)), .int .i64 (IntKind.i64.wrap (x.B + x.D)), .int .i64 (IntKind.i64.wrap (x.C - x.A))], 4⟩] [] := hS3
  refine rw_nil ?_
  refine cw_ret ?_
  obtain rfl := some_inj hF
  exact ret1 Try.results180 (v1 := .agg #[.int .i64 (IntKind.i64.wrap (x.B - x.D)), .int .i64 (IntKind.i64.wrap (x.A + x.C)), .int .i64 (IntKind.i64.wrap (x.B + x.D)), .int .i64 (IntKind.i64.wrap (x.C - x.A))]) (resAt_cellA (B := some ⟨b1, 0, none⟩) (i := 0) (cs := [.int .i64 (IntKind.i64.wrap (x.B - x.D)), .int .i64 (IntKind.i64.wrap (x.A + x.C)), .int .i64 (IntKind.i64.wrap (x.B + x.D)), .int .i64 (IntKind.i64.wrap (x.C - x.A))]) (vs := [.int .i64 (IntKind.i64.wrap (x.B - x.D)), .int .i64 (IntKind.i64.wrap (x.A + x.C)), .int .i64 (IntKind.i64.wrap (x.B + x.D)), .int .i64 (IntKind.i64.wrap (x.C - x.A))]) rfl k_ag_89 k_sz_89_4 (hS3.cf (i := 1) rfl) rfl rfl) ⟨rfl, (ST.subR (R' := []) (hS3.sel [] rfl rfl) (fun _ h => by cases h))⟩

theorem c_spec_l1Half (x : TRing)  (w0 : World)  (hS : ST w0 [] w0 [] []) {r_ : TRing} (hF : F_spec_l1Half x = some r_) :
    CV Try.prog 207 #[.agg #[.int .i64 x.A, .int .i64 x.B, .int .i64 x.C, .int .i64 x.D]] w0 (fun v w' => v = .agg #[.int .i64 r_.A, .int .i64 r_.B, .int .i64 r_.C, .int .i64 r_.D] ∧ ST w0 [] w' [] []) := by
  unfold F_spec_l1Half at hF
  refine cv_of_cw 19 Try.func207 rfl Try.ntmps207 rfl ?_
  refine cw_seq ?_
  refine cw_region ?_
  refine ss 1 rfl rfl (Ys_box (T := 89) (v := .agg #[.int .i64 x.A, .int .i64 x.B, .int .i64 x.C, .int .i64 x.D]) (cs := [.int .i64 x.A, .int .i64 x.B, .int .i64 x.C, .int .i64 x.D]) (m := 4) hS rfl rfl rfl rfl) ?_
  rintro _ w_ ⟨b, rfl, hS1⟩
  refine ss 2 rfl rfl (Ys_alloc (T := 89) (cs := [.int .i64 0, .int .i64 0, .int .i64 0, .int .i64 0]) (m := 4) hS1 k_zero_89 rfl rfl rfl) ?_
  rintro _ w_1 ⟨b1, rfl, hS2⟩
  have hS2 : ST w0 [] _ [⟨some ⟨b, 0, none⟩, 89, [.int .i64 x.A, .int .i64 x.B, .int .i64 x.C, .int .i64 x.D], 4⟩, ⟨some ⟨b1, 0, none⟩, 89, [.int .i64 0, .int .i64 0, .int .i64 0, .int .i64 0], 4⟩] [] := hS2
  refine rw_nil ?_
  refine cw_seq ?_
  refine cw_region ?_
  refine sq 4 rfl rfl (Y_loadA (B := some ⟨b, 0, none⟩) (i := 0) (cs := [.int .i64 x.A, .int .i64 x.B, .int .i64 x.C, .int .i64 x.D]) (vs := [.int .i64 x.A, .int .i64 x.B, .int .i64 x.C, .int .i64 x.D]) k_ag_89 k_sz_89_4 rfl rfl (hS2.cf (i := 0) rfl) rfl rfl) ?_
  obtain ⟨r_1, hc, hF⟩ := bind_inv hF
  refine sc 5 rfl rfl (Yc_func (g := 180) (vs := [.agg #[.int .i64 x.A, .int .i64 x.B, .int .i64 x.C, .int .i64 x.D]]) k_call_180 rfl (mc rfl mn) (c_spec_l1Root x _  (hS2.inn0 [] rfl) hc)) ?_
  rintro _ w_2 ⟨rfl, hd⟩
  have hS3 := hS2.out00 hd
  have hS3 : ST w0 [] _ [⟨some ⟨b, 0, none⟩, 89, [.int .i64 x.A, .int .i64 x.B, .int .i64 x.C, .int .i64 x.D], 4⟩, ⟨some ⟨b1, 0, none⟩, 89, [.int .i64 0, .int .i64 0, .int .i64 0, .int .i64 0], 4⟩] [] := hS3
  refine ss 3 rfl rfl (Ys_alloc (T := 89) (cs := [.int .i64 0, .int .i64 0, .int .i64 0, .int .i64 0]) (m := 4) hS3 k_zero_89 rfl rfl rfl) ?_
  rintro _ w_3 ⟨b2, rfl, hS4⟩
  have hS4 : ST w0 [] _ [⟨some ⟨b, 0, none⟩, 89, [.int .i64 x.A, .int .i64 x.B, .int .i64 x.C, .int .i64 x.D], 4⟩, ⟨some ⟨b1, 0, none⟩, 89, [.int .i64 0, .int .i64 0, .int .i64 0, .int .i64 0], 4⟩, ⟨some ⟨b2, 0, none⟩, 89, [.int .i64 0, .int .i64 0, .int .i64 0, .int .i64 0], 4⟩] [] := hS4
  refine ss0 rfl rfl (Ys_store (i := 2) (s := 4) (B := some ⟨b2, 0, none⟩) (T' := 89) (v := .agg #[.int .i64 r_1.A, .int .i64 r_1.B, .int .i64 r_1.C, .int .i64 r_1.D]) (vs := [.int .i64 r_1.A, .int .i64 r_1.B, .int .i64 r_1.C, .int .i64 r_1.D]) (k := 0) (cs' := [.int .i64 r_1.A, .int .i64 r_1.B, .int .i64 r_1.C, .int .i64 r_1.D]) hS4 k_sz_89_4 rfl rfl rfl rfl rfl rfl rfl (Nat.le_of_ble_eq_true rfl) rfl rfl) ?_
  rintro _ w_4 ⟨rfl, hS5⟩
  have hS5 : ST w0 [] _ [⟨some ⟨b, 0, none⟩, 89, [.int .i64 x.A, .int .i64 x.B, .int .i64 x.C, .int .i64 x.D], 4⟩, ⟨some ⟨b1, 0, none⟩, 89, [.int .i64 0, .int .i64 0, .int .i64 0, .int .i64 0], 4⟩, ⟨some ⟨b2, 0, none⟩, 89, [.int .i64 r_1.A, .int .i64 r_1.B, .int .i64 r_1.C, .int .i64 r_1.D], 4⟩] [] := hS5
  refine rw_nil ?_
  refine cw_seq ?_
  refine cw_region ?_
  refine sq 6 rfl rfl (Y_fieldAddr (B := some ⟨b2, 0, none⟩) (i := 0) (s := 0) k_fd_89_0_0_3 k_sz_3_1 rfl rfl) ?_
  refine sq 7 rfl rfl (Y_load1 (B := some ⟨b2, 0, none⟩) (i := 0) (cs := [.int .i64 r_1.A, .int .i64 r_1.B, .int .i64 r_1.C, .int .i64 r_1.D]) (v := .int .i64 r_1.A) k_sc_3 rfl rfl (hS5.cf (i := 2) rfl) rfl) ?_
  refine sq 8 rfl rfl (Y_quo (k := .i64) (a := r_1.A) (b := 2) rfl rfl rfl (by decide)) ?_
  refine sq 9 rfl rfl (Y_fieldAddr (B := some ⟨b2, 0, none⟩) (i := 0) (s := 0) k_fd_89_1_1_3 k_sz_3_1 rfl rfl) ?_
  refine sq 10 rfl rfl (Y_load1 (B := some ⟨b2, 0, none⟩) (i := 1) (cs := [.int .i64 r_1.A, .int .i64 r_1.B, .int .i64 r_1.C, .int .i64 r_1.D]) (v := .int .i64 r_1.B) k_sc_3 rfl rfl (hS5.cf (i := 2) rfl) rfl) ?_
  refine sq 11 rfl rfl (Y_quo (k := .i64) (a := r_1.B) (b := 2) rfl rfl rfl (by decide)) ?_
  refine sq 12 rfl rfl (Y_fieldAddr (B := some ⟨b2, 0, none⟩) (i := 0) (s := 0) k_fd_89_2_2_3 k_sz_3_1 rfl rfl) ?_
  refine sq 13 rfl rfl (Y_load1 (B := some ⟨b2, 0, none⟩) (i := 2) (cs := [.int .i64 r_1.A, .int .i64 r_1.B, .int .i64 r_1.C, .int .i64 r_1.D]) (v := .int .i64 r_1.C) k_sc_3 rfl rfl (hS5.cf (i := 2) rfl) rfl) ?_
  refine sq 14 rfl rfl (Y_quo (k := .i64) (a := r_1.C) (b := 2) rfl rfl rfl (by decide)) ?_
  refine sq 15 rfl rfl (Y_fieldAddr (B := some ⟨b2, 0, none⟩) (i := 0) (s := 0) k_fd_89_3_3_3 k_sz_3_1 rfl rfl) ?_
  refine sq 16 rfl rfl (Y_load1 (B := some ⟨b2, 0, none⟩) (i := 3) (cs := [.int .i64 r_1.A, .int .i64 r_1.B, .int .i64 r_1.C, .int .i64 r_1.D]) (v := .int .i64 r_1.D) k_sc_3 rfl rfl (hS5.cf (i := 2) rfl) rfl) ?_
  refine sq 17 rfl rfl (Y_quo (k := .i64) (a := r_1.D) (b := 2) rfl rfl rfl (by decide)) ?_
  refine sq 18 rfl rfl (Y_buildS (zs := [.int .i64 0, .int .i64 0, .int .i64 0, .int .i64 0]) (vs := [(0, .int .i64 (IntKind.i64.wrap (Int.tdiv r_1.A 2))), (1, .int .i64 (IntKind.i64.wrap (Int.tdiv r_1.B 2))), (2, .int .i64 (IntKind.i64.wrap (Int.tdiv r_1.C 2))), (3, .int .i64 (IntKind.i64.wrap (Int.tdiv r_1.D 2)))]) (cs := [.int .i64 (IntKind.i64.wrap (Int.tdiv r_1.A 2)), .int .i64 (IntKind.i64.wrap (Int.tdiv r_1.B 2)), .int .i64 (IntKind.i64.wrap (Int.tdiv r_1.C 2)), .int .i64 (IntKind.i64.wrap (Int.tdiv r_1.D 2))]) k_pl_89 k_zero_89 rfl (mpc rfl (mpc rfl (mpc rfl (mpc rfl mpn)))) rfl) ?_
  refine ss0 rfl rfl (Ys_store (i := 1) (s := 4) (B := some ⟨b1, 0, none⟩) (T' := 89) (v := .agg #[.int .i64 (IntKind.i64.wrap (Int.tdiv r_1.A 2)), .int .i64 (IntKind.i64.wrap (Int.tdiv r_1.B 2)), .int .i64 (IntKind.i64.wrap (Int.tdiv r_1.C 2)), .int .i64 (IntKind.i64.wrap (Int.tdiv r_1.D 2))]) (vs := [.int .i64 (IntKind.i64.wrap (Int.tdiv r_1.A 2)), .int .i64 (IntKind.i64.wrap (Int.tdiv r_1.B 2)), .int .i64 (IntKind.i64.wrap (Int.tdiv r_1.C 2)), .int .i64 (IntKind.i64.wrap (Int.tdiv r_1.D 2))]) (k := 0) (cs' := [.int .i64 (IntKind.i64.wrap (Int.tdiv r_1.A 2)), .int .i64 (IntKind.i64.wrap (Int.tdiv r_1.B 2)), .int .i64 (IntKind.i64.wrap (Int.tdiv r_1.C 2)), .int .i64 (IntKind.i64.wrap (Int.tdiv r_1.D 2))]) hS5 k_sz_89_4 rfl rfl rfl rfl rfl rfl rfl (Nat.le_of_ble_eq_true rfl) rfl rfl) ?_
  rintro _ w_5 ⟨rfl, hS6⟩
  have hS6 : ST w0 [] _ [⟨some ⟨b, 0, none⟩, 89, [.int .i64 x.A, .int .i64 x.B, .int .i64 x.C, .int .i64 x.D], 4⟩, ⟨some ⟨b1, 0, none⟩, 89, [.int .i64 (IntKind.i64.wrap (Int.tdiv r_1.A 2)), .int .i64 (IntKind.i64.wrap (Int.tdiv r_1.B 2)), .int .i64 (IntKind.i64.wrap (Int.tdiv r_1.C 2)), .int .i64 (IntKind.i64.wrap (Int.tdiv r_1.D 2))], 4⟩, ⟨some ⟨b2, 0, none⟩, 89, [.int .i64 r_1.A, .int .i64 r_1.B, .int .i64 r_1.C, .int .i64 r_1.D], 4⟩] [] := hS6
  refine rw_nil ?_
  refine cw_ret ?_
  obtain rfl := some_inj hF
  exact ret1 Try.results207 (v1 := .agg #[.int .i64 (IntKind.i64.wrap (Int.tdiv r_1.A 2)), .int .i64 (IntKind.i64.wrap (Int.tdiv r_1.B 2)), .int .i64 (IntKind.i64.wrap (Int.tdiv r_1.C 2)), .int .i64 (IntKind.i64.wrap (Int.tdiv r_1.D 2))]) (resAt_cellA (B := some ⟨b1, 0, none⟩) (i := 0) (cs := [.int .i64 (IntKind.i64.wrap (Int.tdiv r_1.A 2)), .int .i64 (IntKind.i64.wrap (Int.tdiv r_1.B 2)), .int .i64 (IntKind.i64.wrap (Int.tdiv r_1.C 2)), .int .i64 (IntKind.i64.wrap (Int.tdiv r_1.D 2))]) (vs := [.int .i64 (IntKind.i64.wrap (Int.tdiv r_1.A 2)), .int .i64 (IntKind.i64.wrap (Int.tdiv r_1.B 2)), .int .i64 (IntKind.i64.wrap (Int.tdiv r_1.C 2)), .int .i64 (IntKind.i64.wrap (Int.tdiv r_1.D 2))]) rfl k_ag_89 k_sz_89_4 (hS6.cf (i := 1) rfl) rfl rfl) ⟨rfl, (ST.subR (R' := []) (hS6.sel [] rfl rfl) (fun _ h => by cases h))⟩

theorem c_spec_l2Low (num : TRing) (exp : Int)  (w0 : World)  (hS : ST w0 [] w0 [] []) {r_ : TDyadic} (hF : F_spec_l2Low num exp = some r_) :
    CV Try.prog 177 #[.agg #[.int .i64 num.A, .int .i64 num.B, .int .i64 num.C, .int .i64 num.D], .int .i64 exp] w0 (fun v w' => v = .agg #[.int .i64 r_.Num.A, .int .i64 r_.Num.B, .int .i64 r_.Num.C, .int .i64 r_.Num.D, .int .i64 r_.Exp] ∧ ST w0 [] w' [] []) := by
  unfold F_spec_l2Low at hF
  refine cv_of_cw 18 Try.func177 rfl Try.ntmps177 rfl ?_
  refine cw_seq ?_
  refine cw_region ?_
  refine ss 2 rfl rfl (Ys_box (T := 89) (v := .agg #[.int .i64 num.A, .int .i64 num.B, .int .i64 num.C, .int .i64 num.D]) (cs := [.int .i64 num.A, .int .i64 num.B, .int .i64 num.C, .int .i64 num.D]) (m := 4) hS rfl rfl rfl rfl) ?_
  rintro _ w_ ⟨b, rfl, hS1⟩
  refine ss 4 rfl rfl (Ys_alloc (T := 91) (cs := [.int .i64 0, .int .i64 0, .int .i64 0, .int .i64 0, .int .i64 0]) (m := 5) hS1 k_zero_91 rfl rfl rfl) ?_
  rintro _ w_1 ⟨b1, rfl, hS2⟩
  have hS2 : ST w0 [] _ [⟨some ⟨b, 0, none⟩, 89, [.int .i64 num.A, .int .i64 num.B, .int .i64 num.C, .int .i64 num.D], 4⟩, ⟨some ⟨b1, 0, none⟩, 91, [.int .i64 0, .int .i64 0, .int .i64 0, .int .i64 0, .int .i64 0], 5⟩] [] := hS2
  refine rw_nil ?_
  refine cw_seq ?_
  obtain ⟨z, hz, hF1⟩ := bind_inv hF
  refine cw_block ?_
  refine cw_loop (fun k f w => ∃ (exp1 : Int) (A : Int) (B : Int) (C : Int) (D : Int), FF f [(1, .int .i64 exp1), (2, pt (some ⟨b, 0, none⟩) 0), (4, pt (some ⟨b1, 0, none⟩) 0)] ∧ ST w0 [] w [⟨some ⟨b, 0, none⟩, 89, [.int .i64 A, .int .i64 B, .int .i64 C, .int .i64 D], 4⟩, ⟨some ⟨b1, 0, none⟩, 91, [.int .i64 0, .int .i64 0, .int .i64 0, .int .i64 0, .int .i64 0], 5⟩] [] ∧ whX F_spec_l2Low_l1 k (exp1, A, B, C, D) = some z) fuel ⟨exp, num.A, num.B, num.C, num.D, (FF.cons rfl (FF.cons rfl (FF.cons rfl FF.nil))), (hS2.sel [0, 1] rfl rfl), hz⟩ ?_
  rintro k_ f w ⟨exp1, A, B, C, D, hf, hS3, hL⟩
  obtain ⟨k_1, y, rfl, hb, hL1⟩ := whX_go hL
  unfold F_spec_l2Low_l1 at hb
  refine cw_seq ?_
  refine cw_seq ?_
  refine cw_region ?_
  refine sq 5 rfl rfl (Y_move (v := .int .i64 exp1) rfl (hf.get 1 0 rfl)) ?_
  refine sq 6 rfl rfl (Y_gt (k := .i64) (a := exp1) (b := 0) rfl rfl rfl) ?_
  refine sq 7 rfl rfl (Y_move (v := .bool (decide (0 < exp1))) rfl rfl) ?_
  refine sgq 8 (B := (decide (0 < exp1))) (v := .agg #[.int .i64 A, .int .i64 B, .int .i64 C, .int .i64 D]) rfl rfl (wt_t (gd_of (t := 7) (by kernel_rfl) rfl)) (fun hg => (Y_loadA (B := some ⟨b, 0, none⟩) (i := 0) (cs := [.int .i64 A, .int .i64 B, .int .i64 C, .int .i64 D]) (vs := [.int .i64 A, .int .i64 B, .int .i64 C, .int .i64 D]) k_ag_89 k_sz_89_4 rfl (hf.get 2 1 rfl) (hS3.cf (i := 0) rfl) rfl rfl)) ?_
  obtain ⟨r_1, hc, hb⟩ := bind_inv hb
  refine sgc 9 (B := (decide (0 < exp1))) (v := .bool r_1) (F := hS3.fn) rfl rfl (wt_t (gd_of (t := 7) (by kernel_rfl) rfl)) hS3 (fun hg1 => (Yc_func (g := 176) (vs := [.agg #[.int .i64 A, .int .i64 B, .int .i64 C, .int .i64 D]]) k_call_176 rfl (mc (gv_of (B := (decide (0 < exp1))) (v := .agg #[.int .i64 A, .int .i64 B, .int .i64 C, .int .i64 D]) hg1) mn) (CV.mono (c_spec_l1Even (TRing.mk A B C D) _  (hS3.inn0 [] rfl) (gb_inv hc hg1)) (by rintro _ _ ⟨rfl, h⟩; exact ⟨rfl, hS3.out00 h⟩)))) ?_
  rintro w_2 hS4
  have hS4 : ST _ _ w_2 _ _ := hS4
  refine sq 10 rfl rfl (Y_and (b := (decide (0 < exp1))) (z := r_1) rfl rfl rfl rfl) ?_
  refine rw_nil ?_
  refine cw_cond (b := ((decide (0 < exp1)) && r_1)) rfl (fun hb1 => ?_) (fun hb1 => ?_)
  · skip
    have hF2 := ct hb hb1
    refine cw_skip ?_
    refine cw_block ?_
    refine cw_seq ?_
    refine cw_region ?_
    refine sq 11 rfl rfl (Y_loadA (B := some ⟨b, 0, none⟩) (i := 0) (cs := [.int .i64 A, .int .i64 B, .int .i64 C, .int .i64 D]) (vs := [.int .i64 A, .int .i64 B, .int .i64 C, .int .i64 D]) k_ag_89 k_sz_89_4 rfl (hf.get 2 1 rfl) (hS4.cf (i := 0) rfl) rfl rfl) ?_
    obtain ⟨r_2, hc1, hF2⟩ := bind_inv hF2
    refine sc 12 rfl rfl (Yc_func (g := 207) (vs := [.agg #[.int .i64 A, .int .i64 B, .int .i64 C, .int .i64 D]]) k_call_207 rfl (mc rfl mn) (c_spec_l1Half (TRing.mk A B C D) _  (hS4.inn0 [] rfl) hc1)) ?_
    rintro _ w_3 ⟨rfl, hd⟩
    have hS5 := hS4.out00 hd
    have hS5 : ST w0 [] _ [⟨some ⟨b, 0, none⟩, 89, [.int .i64 A, .int .i64 B, .int .i64 C, .int .i64 D], 4⟩, ⟨some ⟨b1, 0, none⟩, 91, [.int .i64 0, .int .i64 0, .int .i64 0, .int .i64 0, .int .i64 0], 5⟩] [] := hS5
    refine ss0 rfl rfl (Ys_store (i := 0) (s := 4) (B := some ⟨b, 0, none⟩) (T' := 89) (v := .agg #[.int .i64 r_2.A, .int .i64 r_2.B, .int .i64 r_2.C, .int .i64 r_2.D]) (vs := [.int .i64 r_2.A, .int .i64 r_2.B, .int .i64 r_2.C, .int .i64 r_2.D]) (k := 0) (cs' := [.int .i64 r_2.A, .int .i64 r_2.B, .int .i64 r_2.C, .int .i64 r_2.D]) hS5 k_sz_89_4 rfl (hf.get 2 1 rfl) rfl rfl rfl rfl rfl (Nat.le_of_ble_eq_true rfl) rfl rfl) ?_
    rintro _ w_4 ⟨rfl, hS6⟩
    have hS6 : ST w0 [] _ [⟨some ⟨b, 0, none⟩, 89, [.int .i64 r_2.A, .int .i64 r_2.B, .int .i64 r_2.C, .int .i64 r_2.D], 4⟩, ⟨some ⟨b1, 0, none⟩, 91, [.int .i64 0, .int .i64 0, .int .i64 0, .int .i64 0, .int .i64 0], 5⟩] [] := hS6
    refine rw_nil ?_
    refine cw_region ?_
    refine sq 13 rfl rfl (Y_move (v := .int .i64 exp1) rfl (hf.get 1 0 rfl)) ?_
    refine sq 14 rfl rfl (Y_sub (k := .i64) (a := exp1) (b := 1) rfl rfl rfl) ?_
    refine sq 1 rfl rfl (Y_assign (v := .int .i64 (IntKind.i64.wrap (exp1 - 1))) rfl rfl) ?_
    refine rw_nil ?_
    obtain rfl := some_inj hF2
    exact ⟨k_1, Nat.lt_succ_self _, (IntKind.i64.wrap (exp1 - 1)), r_2.A, r_2.B, r_2.C, r_2.D, (FF.cons rfl (FF.cons (hf.get 2 1 rfl) (FF.cons (hf.get 4 2 rfl) FF.nil))), (hS6.sel [0, 1] rfl rfl), hL1⟩
  · skip
    have hF3 := cf' hb hb1
    refine cw_exit rfl ?_
    obtain rfl := some_inj hF3
    obtain rfl := some_inj hL1
    refine cw_seq ?_
    refine cw_region ?_
    refine sq 15 rfl rfl (Y_loadA (B := some ⟨b, 0, none⟩) (i := 0) (cs := [.int .i64 A, .int .i64 B, .int .i64 C, .int .i64 D]) (vs := [.int .i64 A, .int .i64 B, .int .i64 C, .int .i64 D]) k_ag_89 k_sz_89_4 rfl (hf.get 2 1 rfl) (hS4.cf (i := 0) rfl) rfl rfl) ?_
    refine sq 16 rfl rfl (Y_move (v := .int .i64 exp1) rfl (hf.get 1 0 rfl)) ?_
    refine sq 17 rfl rfl (Y_buildS (zs := [.int .i64 0, .int .i64 0, .int .i64 0, .int .i64 0, .int .i64 0]) (vs := [(0, .agg #[.int .i64 A, .int .i64 B, .int .i64 C, .int .i64 D]), (1, .int .i64 exp1)]) (cs := [.int .i64 A, .int .i64 B, .int .i64 C, .int .i64 D, .int .i64 exp1]) k_pl_91 k_zero_91 rfl (mpc rfl (mpc rfl mpn)) rfl) ?_
    refine ss0 rfl rfl (Ys_store (i := 1) (s := 5) (B := some ⟨b1, 0, none⟩) (T' := 91) (v := .agg #[.int .i64 A, .int .i64 B, .int .i64 C, .int .i64 D, .int .i64 exp1]) (vs := [.int .i64 A, .int .i64 B, .int .i64 C, .int .i64 D, .int .i64 exp1]) (k := 0) (cs' := [.int .i64 A, .int .i64 B, .int .i64 C, .int .i64 D, .int .i64 exp1]) hS4 k_sz_91_5 rfl (hf.get 4 2 rfl) rfl rfl rfl rfl rfl (Nat.le_of_ble_eq_true rfl) rfl rfl) ?_
    rintro _ w_5 ⟨rfl, hS7⟩
    have hS7 : ST w0 [] _ [⟨some ⟨b, 0, none⟩, 89, [.int .i64 A, .int .i64 B, .int .i64 C, .int .i64 D], 4⟩, ⟨some ⟨b1, 0, none⟩, 91, [.int .i64 A, .int .i64 B, .int .i64 C, .int .i64 D, .int .i64 exp1], 5⟩] [] := hS7
    refine rw_nil ?_
    refine cw_ret ?_
    obtain rfl := some_inj hF1
    exact ret1 Try.results177 (v1 := .agg #[.int .i64 A, .int .i64 B, .int .i64 C, .int .i64 D, .int .i64 exp1]) (resAt_cellA (B := some ⟨b1, 0, none⟩) (i := 0) (cs := [.int .i64 A, .int .i64 B, .int .i64 C, .int .i64 D, .int .i64 exp1]) (vs := [.int .i64 A, .int .i64 B, .int .i64 C, .int .i64 D, .int .i64 exp1]) (hf.get 4 2 rfl) k_ag_91 k_sz_91_5 (hS7.cf (i := 1) rfl) rfl rfl) ⟨rfl, (ST.subR (R' := []) (hS7.sel [] rfl rfl) (fun _ h => by cases h))⟩

theorem c_spec_l2C_ring (c : Tl2C) (x : TRing) (B : Option Addr) (w0 : World)  (hS : ST w0 (bl [⟨B, 126, [.bool c.bad], 1⟩]) w0 [⟨B, 126, [.bool c.bad], 1⟩] []) {r_ : TRing} {m : Tl2C} (hF : F_spec_l2C_ring c x = some (r_, m)) :
    CV Try.prog 178 #[pt B 0, .agg #[.int .i64 x.A, .int .i64 x.B, .int .i64 x.C, .int .i64 x.D]] w0 (fun v w' => v = .agg #[.int .i64 r_.A, .int .i64 r_.B, .int .i64 r_.C, .int .i64 r_.D] ∧ ST w0 (bl [⟨B, 126, [.bool c.bad], 1⟩]) w' [⟨B, 126, [.bool m.bad], 1⟩] []) := by
  unfold F_spec_l2C_ring at hF
  refine cv_of_cw 13 Try.func178 rfl Try.ntmps178 rfl ?_
  refine cw_seq ?_
  refine cw_region ?_
  refine ss 3 rfl rfl (Ys_box (T := 89) (v := .agg #[.int .i64 x.A, .int .i64 x.B, .int .i64 x.C, .int .i64 x.D]) (cs := [.int .i64 x.A, .int .i64 x.B, .int .i64 x.C, .int .i64 x.D]) (m := 4) hS rfl rfl rfl rfl) ?_
  rintro _ w_ ⟨b, rfl, hS1⟩
  have hS1 : ST w0 (bl [⟨B, 126, [.bool c.bad], 1⟩]) _ [⟨B, 126, [.bool c.bad], 1⟩, ⟨some ⟨b, 0, none⟩, 89, [.int .i64 x.A, .int .i64 x.B, .int .i64 x.C, .int .i64 x.D], 4⟩] [] := hS1
  refine ss 4 rfl rfl (Ys_alloc (T := 89) (cs := [.int .i64 0, .int .i64 0, .int .i64 0, .int .i64 0]) (m := 4) hS1 k_zero_89 rfl rfl rfl) ?_
  rintro _ w_1 ⟨b1, rfl, hS2⟩
  have hS2 : ST w0 (bl [⟨B, 126, [.bool c.bad], 1⟩]) _ [⟨B, 126, [.bool c.bad], 1⟩, ⟨some ⟨b, 0, none⟩, 89, [.int .i64 x.A, .int .i64 x.B, .int .i64 x.C, .int .i64 x.D], 4⟩, ⟨some ⟨b1, 0, none⟩, 89, [.int .i64 0, .int .i64 0, .int .i64 0, .int .i64 0], 4⟩] [] := hS2
  refine rw_nil ?_
  refine cw_seq ?_
  refine cw_seq ?_
  refine cw_region ?_
  refine sq 5 rfl rfl (Y_loadA (B := some ⟨b, 0, none⟩) (i := 0) (cs := [.int .i64 x.A, .int .i64 x.B, .int .i64 x.C, .int .i64 x.D]) (vs := [.int .i64 x.A, .int .i64 x.B, .int .i64 x.C, .int .i64 x.D]) k_ag_89 k_sz_89_4 rfl rfl (hS2.cf (i := 1) rfl) rfl rfl) ?_
  obtain ⟨r_1, hc, hF⟩ := bind_inv hF
  refine sc 6 rfl rfl (Yc_func (g := 175) (vs := [.agg #[.int .i64 x.A, .int .i64 x.B, .int .i64 x.C, .int .i64 x.D]]) k_call_175 rfl (mc rfl mn) (c_spec_l1Good x _  (hS2.inn0 [] rfl) hc)) ?_
  rintro _ w_2 ⟨rfl, hd⟩
  have hS3 := hS2.out00 hd
  have hS3 : ST w0 (bl [⟨B, 126, [.bool c.bad], 1⟩]) _ [⟨B, 126, [.bool c.bad], 1⟩, ⟨some ⟨b, 0, none⟩, 89, [.int .i64 x.A, .int .i64 x.B, .int .i64 x.C, .int .i64 x.D], 4⟩, ⟨some ⟨b1, 0, none⟩, 89, [.int .i64 0, .int .i64 0, .int .i64 0, .int .i64 0], 4⟩] [] := hS3
  refine sq 7 rfl rfl (Y_not (p := r_1) rfl rfl) ?_
  refine rw_nil ?_
  refine cw_cond (b := (!r_1)) rfl (fun hb => ?_) (fun hb => ?_)
  · skip
    have hF1 := ct hF hb
    refine cw_seq ?_
    refine cw_region ?_
    refine sq 8 rfl rfl (Y_move (v := pt B 0) rfl rfl) ?_
    refine sq 9 rfl rfl (Y_nilCheck (B := B) (i := 0) rfl rfl) ?_
    refine sq 10 rfl rfl (Y_fieldAddr (B := B) (i := 0) (s := 0) k_fd_126_0_0_4 k_sz_4_1 rfl rfl) ?_
    refine ss0 rfl rfl (Ys_store (i := 0) (s := 1) (B := B) (T' := 126) (v := .bool true) (vs := [.bool true]) (k := 0) (cs' := [.bool true]) hS3 k_sz_4_1 rfl rfl rfl rfl rfl rfl rfl (Nat.le_of_ble_eq_true rfl) rfl rfl) ?_
    rintro _ w_3 ⟨rfl, hS4⟩
    have hS4 : ST w0 (bl [⟨B, 126, [.bool c.bad], 1⟩]) _ [⟨B, 126, [.bool true], 1⟩, ⟨some ⟨b, 0, none⟩, 89, [.int .i64 x.A, .int .i64 x.B, .int .i64 x.C, .int .i64 x.D], 4⟩, ⟨some ⟨b1, 0, none⟩, 89, [.int .i64 0, .int .i64 0, .int .i64 0, .int .i64 0], 4⟩] [] := hS4
    refine rw_nil ?_
    refine cw_seq ?_
    refine cw_region ?_
    refine sq 11 rfl rfl (Y_buildS (zs := [.int .i64 0, .int .i64 0, .int .i64 0, .int .i64 0]) (vs := []) (cs := [.int .i64 0, .int .i64 0, .int .i64 0, .int .i64 0]) k_pl_89 k_zero_89 rfl mpn rfl) ?_
    refine ss0 rfl rfl (Ys_store (i := 2) (s := 4) (B := some ⟨b1, 0, none⟩) (T' := 89) (v := .agg #[.int .i64 0, .int .i64 0, .int .i64 0, .int .i64 0]) (vs := [.int .i64 0, .int .i64 0, .int .i64 0, .int .i64 0]) (k := 0) (cs' := [.int .i64 0, .int .i64 0, .int .i64 0, .int .i64 0]) hS4 k_sz_89_4 rfl rfl rfl rfl rfl rfl rfl (Nat.le_of_ble_eq_true rfl) rfl rfl) ?_
    rintro _ w_4 ⟨rfl, hS5⟩
    have hS5 : ST w0 (bl [⟨B, 126, [.bool c.bad], 1⟩]) _ [⟨B, 126, [.bool true], 1⟩, ⟨some ⟨b, 0, none⟩, 89, [.int .i64 x.A, .int .i64 x.B, .int .i64 x.C, .int .i64 x.D], 4⟩, ⟨some ⟨b1, 0, none⟩, 89, [.int .i64 0, .int .i64 0, .int .i64 0, .int .i64 0], 4⟩] [] := hS5
    refine rw_nil ?_
    refine cw_ret ?_
    obtain ⟨rfl, rfl⟩ := pr2 (some_inj hF1)
    exact ret1 Try.results178 (v1 := .agg #[.int .i64 0, .int .i64 0, .int .i64 0, .int .i64 0]) (resAt_cellA (B := some ⟨b1, 0, none⟩) (i := 0) (cs := [.int .i64 0, .int .i64 0, .int .i64 0, .int .i64 0]) (vs := [.int .i64 0, .int .i64 0, .int .i64 0, .int .i64 0]) rfl k_ag_89 k_sz_89_4 (hS5.cf (i := 2) rfl) rfl rfl) ⟨rfl, (ST.subR (R' := []) (hS5.sel [0] rfl rfl) (fun _ h => by cases h))⟩
  · skip
    have hF2 := cf' hF hb
    refine cw_skip ?_
    refine cw_seq ?_
    refine cw_region ?_
    refine sq 12 rfl rfl (Y_loadA (B := some ⟨b, 0, none⟩) (i := 0) (cs := [.int .i64 x.A, .int .i64 x.B, .int .i64 x.C, .int .i64 x.D]) (vs := [.int .i64 x.A, .int .i64 x.B, .int .i64 x.C, .int .i64 x.D]) k_ag_89 k_sz_89_4 rfl rfl (hS3.cf (i := 1) rfl) rfl rfl) ?_
    refine ss0 rfl rfl (Ys_store (i := 2) (s := 4) (B := some ⟨b1, 0, none⟩) (T' := 89) (v := .agg #[.int .i64 x.A, .int .i64 x.B, .int .i64 x.C, .int .i64 x.D]) (vs := [.int .i64 x.A, .int .i64 x.B, .int .i64 x.C, .int .i64 x.D]) (k := 0) (cs' := [.int .i64 x.A, .int .i64 x.B, .int .i64 x.C, .int .i64 x.D]) hS3 k_sz_89_4 rfl rfl rfl rfl rfl rfl rfl (Nat.le_of_ble_eq_true rfl) rfl rfl) ?_
    rintro _ w_5 ⟨rfl, hS6⟩
    have hS6 : ST w0 (bl [⟨B, 126, [.bool c.bad], 1⟩]) _ [⟨B, 126, [.bool c.bad], 1⟩, ⟨some ⟨b, 0, none⟩, 89, [.int .i64 x.A, .int .i64 x.B, .int .i64 x.C, .int .i64 x.D], 4⟩, ⟨some ⟨b1, 0, none⟩, 89, [.int .i64 x.A, .int .i64 x.B, .int .i64 x.C, .int .i64 x.D], 4⟩] [] := hS6
    refine rw_nil ?_
    refine cw_ret ?_
    obtain ⟨rfl, rfl⟩ := pr2 (some_inj hF2)
    exact ret1 Try.results178 (v1 := .agg #[.int .i64 x.A, .int .i64 x.B, .int .i64 x.C, .int .i64 x.D]) (resAt_cellA (B := some ⟨b1, 0, none⟩) (i := 0) (cs := [.int .i64 x.A, .int .i64 x.B, .int .i64 x.C, .int .i64 x.D]) (vs := [.int .i64 x.A, .int .i64 x.B, .int .i64 x.C, .int .i64 x.D]) rfl k_ag_89 k_sz_89_4 (hS6.cf (i := 2) rfl) rfl rfl) ⟨rfl, (ST.subR (R' := []) (hS6.sel [0] rfl rfl) (fun _ h => by cases h))⟩

theorem c_spec_l1Mul (x : TRing) (y : TRing)  (w0 : World)  (hS : ST w0 [] w0 [] []) {r_ : TRing} (hF : F_spec_l1Mul x y = some r_) :
    CV Try.prog 179 #[.agg #[.int .i64 x.A, .int .i64 x.B, .int .i64 x.C, .int .i64 x.D], .agg #[.int .i64 y.A, .int .i64 y.B, .int .i64 y.C, .int .i64 y.D]] w0 (fun v w' => v = .agg #[.int .i64 r_.A, .int .i64 r_.B, .int .i64 r_.C, .int .i64 r_.D] ∧ ST w0 [] w' [] []) := by
  unfold F_spec_l1Mul at hF
  refine cv_of_cw 98 Try.func179 rfl Try.ntmps179 rfl ?_
  refine cw_seq ?_
  refine cw_region ?_
  refine ss 2 rfl rfl (Ys_box (T := 89) (v := .agg #[.int .i64 x.A, .int .i64 x.B, .int .i64 x.C, .int .i64 x.D]) (cs := [.int .i64 x.A, .int .i64 x.B, .int .i64 x.C, .int .i64 x.D]) (m := 4) hS rfl rfl rfl rfl) ?_
  rintro _ w_ ⟨b, rfl, hS1⟩
  refine ss 3 rfl rfl (Ys_box (T := 89) (v := .agg #[.int .i64 y.A, .int .i64 y.B, .int .i64 y.C, .int .i64 y.D]) (cs := [.int .i64 y.A, .int .i64 y.B, .int .i64 y.C, .int .i64 y.D]) (m := 4) hS1 rfl rfl rfl rfl) ?_
  rintro _ w_1 ⟨b1, rfl, hS2⟩
  have hS2 : ST w0 [] _ [⟨some ⟨b, 0, none⟩, 89, [.int .i64 x.A, .int .i64 x.B, .int .i64 x.C, .int .i64 x.D], 4⟩, ⟨some ⟨b1, 0, none⟩, 89, [.int .i64 y.A, .int .i64 y.B, .int .i64 y.C, .int .i64 y.D], 4⟩] [] := hS2
  refine ss 4 rfl rfl (Ys_alloc (T := 89) (cs := [.int .i64 0, .int .i64 0, .int .i64 0, .int .i64 0]) (m := 4) hS2 k_zero_89 rfl rfl rfl) ?_
  rintro _ w_2 ⟨b2, rfl, hS3⟩
  have hS3 : ST w0 [] _ [⟨some ⟨b, 0, none⟩, 89, [.int .i64 x.A, .int .i64 x.B, .int .i64 x.C, .int .i64 x.D], 4⟩, ⟨some ⟨b1, 0, none⟩, 89, [.int .i64 y.A, .int .i64 y.B, .int .i64 y.C, .int .i64 y.D], 4⟩, ⟨some ⟨b2, 0, none⟩, 89, [.int .i64 0, .int .i64 0, .int .i64 0, .int .i64 0], 4⟩] [] := hS3
  refine rw_nil ?_
  refine cw_seq ?_
  refine cw_region ?_
  refine sq 5 rfl rfl (Y_fieldAddr (B := some ⟨b, 0, none⟩) (i := 0) (s := 0) k_fd_89_0_0_3 k_sz_3_1 rfl rfl) ?_
  refine sq 6 rfl rfl (Y_load1 (B := some ⟨b, 0, none⟩) (i := 0) (cs := [.int .i64 x.A, .int .i64 x.B, .int .i64 x.C, .int .i64 x.D]) (v := .int .i64 x.A) k_sc_3 rfl rfl (hS3.cf (i := 0) rfl) rfl) ?_
  refine sq 7 rfl rfl (Y_fieldAddr (B := some ⟨b1, 0, none⟩) (i := 0) (s := 0) k_fd_89_0_0_3 k_sz_3_1 rfl rfl) ?_
  refine sq 8 rfl rfl (Y_load1 (B := some ⟨b1, 0, none⟩) (i := 0) (cs := [.int .i64 y.A, .int .i64 y.B, .int .i64 y.C, .int .i64 y.D]) (v := .int .i64 y.A) k_sc_3 rfl rfl (hS3.cf (i := 1) rfl) rfl) ?_
  refine sq 9 rfl rfl (Y_mul (k := .i64) (a := x.A) (b := y.A) rfl rfl rfl) ?_
  refine sq 10 rfl rfl (Y_fieldAddr (B := some ⟨b, 0, none⟩) (i := 0) (s := 0) k_fd_89_1_1_3 k_sz_3_1 rfl rfl) ?_
  refine sq 11 rfl rfl (Y_load1 (B := some ⟨b, 0, none⟩) (i := 1) (cs := [.int .i64 x.A, .int .i64 x.B, .int .i64 x.C, .int .i64 x.D]) (v := .int .i64 x.B) k_sc_3 rfl rfl (hS3.cf (i := 0) rfl) rfl) ?_
  refine sq 12 rfl rfl (Y_fieldAddr (B := some ⟨b1, 0, none⟩) (i := 0) (s := 0) k_fd_89_3_3_3 k_sz_3_1 rfl rfl) ?_
  refine sq 13 rfl rfl (Y_load1 (B := some ⟨b1, 0, none⟩) (i := 3) (cs := [.int .i64 y.A, .int .i64 y.B, .int .i64 y.C, .int .i64 y.D]) (v := .int .i64 y.D) k_sc_3 rfl rfl (hS3.cf (i := 1) rfl) rfl) ?_
  refine sq 14 rfl rfl (Y_mul (k := .i64) (a := x.B) (b := y.D) rfl rfl rfl) ?_
  refine sq 15 rfl rfl (Y_sub (k := .i64) (a := (IntKind.i64.wrap (x.A * y.A))) (b := (IntKind.i64.wrap (x.B * y.D))) rfl rfl rfl) ?_
  refine sq 16 rfl rfl (Y_fieldAddr (B := some ⟨b, 0, none⟩) (i := 0) (s := 0) k_fd_89_2_2_3 k_sz_3_1 rfl rfl) ?_
  refine sq 17 rfl rfl (Y_load1 (B := some ⟨b, 0, none⟩) (i := 2) (cs := [.int .i64 x.A, .int .i64 x.B, .int .i64 x.C, .int .i64 x.D]) (v := .int .i64 x.C) k_sc_3 rfl rfl (hS3.cf (i := 0) rfl) rfl) ?_
  refine sq 18 rfl rfl (Y_fieldAddr (B := some ⟨b1, 0, none⟩) (i := 0) (s := 0) k_fd_89_2_2_3 k_sz_3_1 rfl rfl) ?_
  refine sq 19 rfl rfl (Y_load1 (B := some ⟨b1, 0, none⟩) (i := 2) (cs := [.int .i64 y.A, .int .i64 y.B, .int .i64 y.C, .int .i64 y.D]) (v := .int .i64 y.C) k_sc_3 rfl rfl (hS3.cf (i := 1) rfl) rfl) ?_
  refine sq 20 rfl rfl (Y_mul (k := .i64) (a := x.C) (b := y.C) rfl rfl rfl) ?_
  refine sq 21 rfl rfl (Y_sub (k := .i64) (a := (IntKind.i64.wrap ((IntKind.i64.wrap (x.A * y.A)) - (IntKind.i64.wrap (x.B * y.D))))) (b := (IntKind.i64.wrap (x.C * y.C))) rfl rfl rfl) ?_
  refine sq 22 rfl rfl (Y_fieldAddr (B := some ⟨b, 0, none⟩) (i := 0) (s := 0) k_fd_89_3_3_3 k_sz_3_1 rfl rfl) ?_
  refine sq 23 rfl rfl (Y_load1 (B := some ⟨b, 0, none⟩) (i := 3) (cs := [.int .i64 x.A, .int .i64 x.B, .int .i64 x.C, .int .i64 x.D]) (v := .int .i64 x.D) k_sc_3 rfl rfl (hS3.cf (i := 0) rfl) rfl) ?_
  refine sq 24 rfl rfl (Y_fieldAddr (B := some ⟨b1, 0, none⟩) (i := 0) (s := 0) k_fd_89_1_1_3 k_sz_3_1 rfl rfl) ?_
  refine sq 25 rfl rfl (Y_load1 (B := some ⟨b1, 0, none⟩) (i := 1) (cs := [.int .i64 y.A, .int .i64 y.B, .int .i64 y.C, .int .i64 y.D]) (v := .int .i64 y.B) k_sc_3 rfl rfl (hS3.cf (i := 1) rfl) rfl) ?_
  refine sq 26 rfl rfl (Y_mul (k := .i64) (a := x.D) (b := y.B) rfl rfl rfl) ?_
  refine sq 27 rfl rfl (Y_sub (k := .i64) (a := (IntKind.i64.wrap ((IntKind.i64.wrap ((IntKind.i64.wrap (x.A * y.A)) - (IntKind.i64.wrap (x.B * y.D)))) - (IntKind.i64.wrap (x.C * y.C))))) (b := (IntKind.i64.wrap (x.D * y.B))) rfl rfl rfl) ?_
  refine sq 28 rfl rfl (Y_fieldAddr (B := some ⟨b, 0, none⟩) (i := 0) (s := 0) k_fd_89_0_0_3 k_sz_3_1 rfl rfl) ?_
  refine sq 29 rfl rfl (Y_load1 (B := some ⟨b, 0, none⟩) (i := 0) (cs := [.int .i64 x.A, .int .i64 x.B, .int .i64 x.C, .int .i64 x.D]) (v := .int .i64 x.A) k_sc_3 rfl rfl (hS3.cf (i := 0) rfl) rfl) ?_
  refine sq 30 rfl rfl (Y_fieldAddr (B := some ⟨b1, 0, none⟩) (i := 0) (s := 0) k_fd_89_1_1_3 k_sz_3_1 rfl rfl) ?_
  refine sq 31 rfl rfl (Y_load1 (B := some ⟨b1, 0, none⟩) (i := 1) (cs := [.int .i64 y.A, .int .i64 y.B, .int .i64 y.C, .int .i64 y.D]) (v := .int .i64 y.B) k_sc_3 rfl rfl (hS3.cf (i := 1) rfl) rfl) ?_
  refine sq 32 rfl rfl (Y_mul (k := .i64) (a := x.A) (b := y.B) rfl rfl rfl) ?_
  refine sq 33 rfl rfl (Y_fieldAddr (B := some ⟨b, 0, none⟩) (i := 0) (s := 0) k_fd_89_1_1_3 k_sz_3_1 rfl rfl) ?_
  refine sq 34 rfl rfl (Y_load1 (B := some ⟨b, 0, none⟩) (i := 1) (cs := [.int .i64 x.A, .int .i64 x.B, .int .i64 x.C, .int .i64 x.D]) (v := .int .i64 x.B) k_sc_3 rfl rfl (hS3.cf (i := 0) rfl) rfl) ?_
  refine sq 35 rfl rfl (Y_fieldAddr (B := some ⟨b1, 0, none⟩) (i := 0) (s := 0) k_fd_89_0_0_3 k_sz_3_1 rfl rfl) ?_
  refine sq 36 rfl rfl (Y_load1 (B := some ⟨b1, 0, none⟩) (i := 0) (cs := [.int .i64 y.A, .int .i64 y.B, .int .i64 y.C, .int .i64 y.D]) (v := .int .i64 y.A) k_sc_3 rfl rfl (hS3.cf (i := 1) rfl) rfl) ?_
  refine sq 37 rfl rfl (Y_mul (k := .i64) (a := x.B) (b := y.A) rfl rfl rfl) ?_
  refine sq 38 rfl rfl (Y_add (k := .i64) (a := (IntKind.i64.wrap (x.A * y.B))) (b := (IntKind.i64.wrap (x.B * y.A))) rfl rfl rfl) ?_
  refine sq 39 rfl rfl (Y_fieldAddr (B := some ⟨b, 0, none⟩) (i := 0) (s := 0) k_fd_89_2_2_3 k_sz_3_1 rfl rfl) ?_
  refine sq 40 rfl rfl (Y_load1 (B := some ⟨b, 0, none⟩) (i := 2) (cs := [.int .i64 x.A, .int .i64 x.B, .int .i64 x.C, .int .i64 x.D]) (v := .int .i64 x.C) k_sc_3 rfl rfl (hS3.cf (i := 0) rfl) rfl) ?_
  refine sq 41 rfl rfl (Y_fieldAddr (B := some ⟨b1, 0, none⟩) (i := 0) (s := 0) k_fd_89_3_3_3 k_sz_3_1 rfl rfl) ?_
  refine sq 42 rfl rfl (Y_load1 (B := some ⟨b1, 0, none⟩) (i := 3) (cs := [.int .i64 y.A, .int .i64 y.B, .int .i64 y.C, .int .i64 y.D]) (v := .int .i64 y.D) k_sc_3 rfl rfl (hS3.cf (i := 1) rfl) rfl) ?_
  refine sq 43 rfl rfl (Y_mul (k := .i64) (a := x.C) (b := y.D) rfl rfl rfl) ?_
  refine sq 44 rfl rfl (Y_sub (k := .i64) (a := (IntKind.i64.wrap ((IntKind.i64.wrap (x.A * y.B)) + (IntKind.i64.wrap (x.B * y.A))))) (b := (IntKind.i64.wrap (x.C * y.D))) rfl rfl rfl) ?_
  refine sq 45 rfl rfl (Y_fieldAddr (B := some ⟨b, 0, none⟩) (i := 0) (s := 0) k_fd_89_3_3_3 k_sz_3_1 rfl rfl) ?_
  refine sq 46 rfl rfl (Y_load1 (B := some ⟨b, 0, none⟩) (i := 3) (cs := [.int .i64 x.A, .int .i64 x.B, .int .i64 x.C, .int .i64 x.D]) (v := .int .i64 x.D) k_sc_3 rfl rfl (hS3.cf (i := 0) rfl) rfl) ?_
  refine sq 47 rfl rfl (Y_fieldAddr (B := some ⟨b1, 0, none⟩) (i := 0) (s := 0) k_fd_89_2_2_3 k_sz_3_1 rfl rfl) ?_
  refine sq 48 rfl rfl (Y_load1 (B := some ⟨b1, 0, none⟩) (i := 2) (cs := [.int .i64 y.A, .int .i64 y.B, .int .i64 y.C, .int .i64 y.D]) (v := .int .i64 y.C) k_sc_3 rfl rfl (hS3.cf (i := 1) rfl) rfl) ?_
  refine sq 49 rfl rfl (Y_mul (k := .i64) (a := x.D) (b := y.C) rfl rfl rfl) ?_
  refine sq 50 rfl rfl (Y_sub (k := .i64) (a := (IntKind.i64.wrap ((IntKind.i64.wrap ((IntKind.i64.wrap (x.A * y.B)) + (IntKind.i64.wrap (x.B * y.A)))) - (IntKind.i64.wrap (x.C * y.D))))) (b := (IntKind.i64.wrap (x.D * y.C))) rfl rfl rfl) ?_
  refine sq 51 rfl rfl (Y_fieldAddr (B := some ⟨b, 0, none⟩) (i := 0) (s := 0) k_fd_89_0_0_3 k_sz_3_1 rfl rfl) ?_
  refine sq 52 rfl rfl (Y_load1 (B := some ⟨b, 0, none⟩) (i := 0) (cs := [.int .i64 x.A, .int .i64 x.B, .int .i64 x.C, .int .i64 x.D]) (v := .int .i64 x.A) k_sc_3 rfl rfl (hS3.cf (i := 0) rfl) rfl) ?_
  refine sq 53 rfl rfl (Y_fieldAddr (B := some ⟨b1, 0, none⟩) (i := 0) (s := 0) k_fd_89_2_2_3 k_sz_3_1 rfl rfl) ?_
  refine sq 54 rfl rfl (Y_load1 (B := some ⟨b1, 0, none⟩) (i := 2) (cs := [.int .i64 y.A, .int .i64 y.B, .int .i64 y.C, .int .i64 y.D]) (v := .int .i64 y.C) k_sc_3 rfl rfl (hS3.cf (i := 1) rfl) rfl) ?_
  refine sq 55 rfl rfl (Y_mul (k := .i64) (a := x.A) (b := y.C) rfl rfl rfl) ?_
  refine sq 56 rfl rfl (Y_fieldAddr (B := some ⟨b, 0, none⟩) (i := 0) (s := 0) k_fd_89_1_1_3 k_sz_3_1 rfl rfl) ?_
  refine sq 57 rfl rfl (Y_load1 (B := some ⟨b, 0, none⟩) (i := 1) (cs := [.int .i64 x.A, .int .i64 x.B, .int .i64 x.C, .int .i64 x.D]) (v := .int .i64 x.B) k_sc_3 rfl rfl (hS3.cf (i := 0) rfl) rfl) ?_
  refine sq 58 rfl rfl (Y_fieldAddr (B := some ⟨b1, 0, none⟩) (i := 0) (s := 0) k_fd_89_1_1_3 k_sz_3_1 rfl rfl) ?_
  refine sq 59 rfl rfl (Y_load1 (B := some ⟨b1, 0, none⟩) (i := 1) (cs := [.int .i64 y.A, .int .i64 y.B, .int .i64 y.C, .int .i64 y.D]) (v := .int .i64 y.B) k_sc_3 rfl rfl (hS3.cf (i := 1) rfl) rfl) ?_
  refine sq 60 rfl rfl (Y_mul (k := .i64) (a := x.B) (b := y.B) rfl rfl rfl) ?_
  refine sq 61 rfl rfl (Y_add (k := .i64) (a := (IntKind.i64.wrap (x.A * y.C))) (b := (IntKind.i64.wrap (x.B * y.B))) rfl rfl rfl) ?_
  refine sq 62 rfl rfl (Y_fieldAddr (B := some ⟨b, 0, none⟩) (i := 0) (s := 0) k_fd_89_2_2_3 k_sz_3_1 rfl rfl) ?_
  refine sq 63 rfl rfl (Y_load1 (B := some ⟨b, 0, none⟩) (i := 2) (cs := [.int .i64 x.A, .int .i64 x.B, .int .i64 x.C, .int .i64 x.D]) (v := .int .i64 x.C) k_sc_3 rfl rfl (hS3.cf (i := 0) rfl) rfl) ?_
  refine sq 64 rfl rfl (Y_fieldAddr (B := some ⟨b1, 0, none⟩) (i := 0) (s := 0) k_fd_89_0_0_3 k_sz_3_1 rfl rfl) ?_
  refine sq 65 rfl rfl (Y_load1 (B := some ⟨b1, 0, none⟩) (i := 0) (cs := [.int .i64 y.A, .int .i64 y.B, .int .i64 y.C, .int .i64 y.D]) (v := .int .i64 y.A) k_sc_3 rfl rfl (hS3.cf (i := 1) rfl) rfl) ?_
  refine sq 66 rfl rfl (Y_mul (k := .i64) (a := x.C) (b := y.A) rfl rfl rfl) ?_
  refine sq 67 rfl rfl (Y_add (k := .i64) (a := (IntKind.i64.wrap ((IntKind.i64.wrap (x.A * y.C)) + (IntKind.i64.wrap (x.B * y.B))))) (b := (IntKind.i64.wrap (x.C * y.A))) rfl rfl rfl) ?_
  refine sq 68 rfl rfl (Y_fieldAddr (B := some ⟨b, 0, none⟩) (i := 0) (s := 0) k_fd_89_3_3_3 k_sz_3_1 rfl rfl) ?_
  refine sq 69 rfl rfl (Y_load1 (B := some ⟨b, 0, none⟩) (i := 3) (cs := [.int .i64 x.A, .int .i64 x.B, .int .i64 x.C, .int .i64 x.D]) (v := .int .i64 x.D) k_sc_3 rfl rfl (hS3.cf (i := 0) rfl) rfl) ?_
  refine sq 70 rfl rfl (Y_fieldAddr (B := some ⟨b1, 0, none⟩) (i := 0) (s := 0) k_fd_89_3_3_3 k_sz_3_1 rfl rfl) ?_
  refine sq 71 rfl rfl (Y_load1 (B := some ⟨b1, 0, none⟩) (i := 3) (cs := [.int .i64 y.A, .int .i64 y.B, .int .i64 y.C, .int .i64 y.D]) (v := .int .i64 y.D) k_sc_3 rfl rfl (hS3.cf (i := 1) rfl) rfl) ?_
  refine sq 72 rfl rfl (Y_mul (k := .i64) (a := x.D) (b := y.D) rfl rfl rfl) ?_
  refine sq 73 rfl rfl (Y_sub (k := .i64) (a := (IntKind.i64.wrap ((IntKind.i64.wrap ((IntKind.i64.wrap (x.A * y.C)) + (IntKind.i64.wrap (x.B * y.B)))) + (IntKind.i64.wrap (x.C * y.A))))) (b := (IntKind.i64.wrap (x.D * y.D))) rfl rfl rfl) ?_
  refine sq 74 rfl rfl (Y_fieldAddr (B := some ⟨b, 0, none⟩) (i := 0) (s := 0) k_fd_89_0_0_3 k_sz_3_1 rfl rfl) ?_
  refine sq 75 rfl rfl (Y_load1 (B := some ⟨b, 0, none⟩) (i := 0) (cs := [.int .i64 x.A, .int .i64 x.B, .int .i64 x.C, .int .i64 x.D]) (v := .int .i64 x.A) k_sc_3 rfl rfl (hS3.cf (i := 0) rfl) rfl) ?_
  refine sq 76 rfl rfl (Y_fieldAddr (B := some ⟨b1, 0, none⟩) (i := 0) (s := 0) k_fd_89_3_3_3 k_sz_3_1 rfl rfl) ?_
  refine sq 77 rfl rfl (Y_load1 (B := some ⟨b1, 0, none⟩) (i := 3) (cs := [.int .i64 y.A, .int .i64 y.B, .int .i64 y.C, .int .i64 y.D]) (v := .int .i64 y.D) k_sc_3 rfl rfl (hS3.cf (i := 1) rfl) rfl) ?_
  refine sq 78 rfl rfl (Y_mul (k := .i64) (a := x.A) (b := y.D) rfl rfl rfl) ?_
  refine sq 79 rfl rfl (Y_fieldAddr (B := some ⟨b, 0, none⟩) (i := 0) (s := 0) k_fd_89_1_1_3 k_sz_3_1 rfl rfl) ?_
  refine sq 80 rfl rfl (Y_load1 (B := some ⟨b, 0, none⟩) (i := 1) (cs := [.int .i64 x.A, .int .i64 x.B, .int .i64 x.C, .int .i64 x.D]) (v := .int .i64 x.B) k_sc_3 rfl rfl (hS3.cf (i := 0) rfl) rfl) ?_
  refine sq 81 rfl rfl (Y_fieldAddr (B := some ⟨b1, 0, none⟩) (i := 0) (s := 0) k_fd_89_2_2_3 k_sz_3_1 rfl rfl) ?_
  refine sq 82 rfl rfl (Y_load1 (B := some ⟨b1, 0, none⟩) (i := 2) (cs := [.int .i64 y.A, .int .i64 y.B, .int .i64 y.C, .int .i64 y.D]) (v := .int .i64 y.C) k_sc_3 rfl rfl (hS3.cf (i := 1) rfl) rfl) ?_
  refine sq 83 rfl rfl (Y_mul (k := .i64) (a := x.B) (b := y.C) rfl rfl rfl) ?_
  refine sq 84 rfl rfl (Y_add (k := .i64) (a := (IntKind.i64.wrap (x.A * y.D))) (b := (IntKind.i64.wrap (x.B * y.C))) rfl rfl rfl) ?_
  refine sq 85 rfl rfl (Y_fieldAddr (B := some ⟨b, 0, none⟩) (i := 0) (s := 0) k_fd_89_2_2_3 k_sz_3_1 rfl rfl) ?_
  refine sq 86 rfl rfl (Y_load1 (B := some ⟨b, 0, none⟩) (i := 2) (cs := [.int .i64 x.A, .int .i64 x.B, .int .i64 x.C, .int .i64 x.D]) (v := .int .i64 x.C) k_sc_3 rfl rfl (hS3.cf (i := 0) rfl) rfl) ?_
  refine sq 87 rfl rfl (Y_fieldAddr (B := some ⟨b1, 0, none⟩) (i := 0) (s := 0) k_fd_89_1_1_3 k_sz_3_1 rfl rfl) ?_
  refine sq 88 rfl rfl (Y_load1 (B := some ⟨b1, 0, none⟩) (i := 1) (cs := [.int .i64 y.A, .int .i64 y.B, .int .i64 y.C, .int .i64 y.D]) (v := .int .i64 y.B) k_sc_3 rfl rfl (hS3.cf (i := 1) rfl) rfl) ?_
  refine sq 89 rfl rfl (Y_mul (k := .i64) (a := x.C) (b := y.B) rfl rfl rfl) ?_
  refine sq 90 rfl rfl (Y_add (k := .i64) (a := (IntKind.i64.wrap ((IntKind.i64.wrap (x.A * y.D)) + (IntKind.i64.wrap (x.B * y.C))))) (b := (IntKind.i64.wrap (x.C * y.B))) rfl rfl rfl) ?_
  refine sq 91 rfl rfl (Y_fieldAddr (B := some ⟨b, 0, none⟩) (i := 0) (s := 0) k_fd_89_3_3_3 k_sz_3_1 rfl rfl) ?_
  refine sq 92 rfl rfl (Y_load1 (B := some ⟨b, 0, none⟩) (i := 3) (cs := [.int .i64 x.A, .int .i64 x.B, .int .i64 x.C, .int .i64 x.D]) (v := .int .i64 x.D) k_sc_3 rfl rfl (hS3.cf (i := 0) rfl) rfl) ?_
  refine sq 93 rfl rfl (Y_fieldAddr (B := some ⟨b1, 0, none⟩) (i := 0) (s := 0) k_fd_89_0_0_3 k_sz_3_1 rfl rfl) ?_
  refine sq 94 rfl rfl (Y_load1 (B := some ⟨b1, 0, none⟩) (i := 0) (cs := [.int .i64 y.A, .int .i64 y.B, .int .i64 y.C, .int .i64 y.D]) (v := .int .i64 y.A) k_sc_3 rfl rfl (hS3.cf (i := 1) rfl) rfl) ?_
  refine sq 95 rfl rfl (Y_mul (k := .i64) (a := x.D) (b := y.A) rfl rfl rfl) ?_
  refine sq 96 rfl rfl (Y_add (k := .i64) (a := (IntKind.i64.wrap ((IntKind.i64.wrap ((IntKind.i64.wrap (x.A * y.D)) + (IntKind.i64.wrap (x.B * y.C)))) + (IntKind.i64.wrap (x.C * y.B))))) (b := (IntKind.i64.wrap (x.D * y.A))) rfl rfl rfl) ?_
  refine sq 97 rfl rfl (Y_buildS (zs := [.int .i64 0, .int .i64 0, .int .i64 0, .int .i64 0]) (vs := [(0, .int .i64 (IntKind.i64.wrap ((IntKind.i64.wrap ((IntKind.i64.wrap ((IntKind.i64.wrap (x.A * y.A)) - (IntKind.i64.wrap (x.B * y.D)))) - (IntKind.i64.wrap (x.C * y.C)))) - (IntKind.i64.wrap (x.D * y.B))))), (1, .int .i64 (IntKind.i64.wrap ((IntKind.i64.wrap ((IntKind.i64.wrap ((IntKind.i64.wrap (x.A * y.B)) + (IntKind.i64.wrap (x.B * y.A)))) - (IntKind.i64.wrap (x.C * y.D)))) - (IntKind.i64.wrap (x.D * y.C))))), (2, .int .i64 (IntKind.i64.wrap ((IntKind.i64.wrap ((IntKind.i64.wrap ((IntKind.i64.wrap (x.A * y.C)) + (IntKind.i64.wrap (x.B * y.B)))) + (IntKind.i64.wrap (x.C * y.A)))) - (IntKind.i64.wrap (x.D * y.D))))), (3, .int .i64 (IntKind.i64.wrap ((IntKind.i64.wrap ((IntKind.i64.wrap ((IntKind.i64.wrap (x.A * y.D)) + (IntKind.i64.wrap (x.B * y.C)))) + (IntKind.i64.wrap (x.C * y.B)))) + (IntKind.i64.wrap (x.D * y.A)))))]) (cs := [.int .i64 (IntKind.i64.wrap ((IntKind.i64.wrap ((IntKind.i64.wrap ((IntKind.i64.wrap (x.A * y.A)) - (IntKind.i64.wrap (x.B * y.D)))) - (IntKind.i64.wrap (x.C * y.C)))) - (IntKind.i64.wrap (x.D * y.B)))), .int .i64 (IntKind.i64.wrap ((IntKind.i64.wrap ((IntKind.i64.wrap ((IntKind.i64.wrap (x.A * y.B)) + (IntKind.i64.wrap (x.B * y.A)))) - (IntKind.i64.wrap (x.C * y.D)))) - (IntKind.i64.wrap (x.D * y.C)))), .int .i64 (IntKind.i64.wrap ((IntKind.i64.wrap ((IntKind.i64.wrap ((IntKind.i64.wrap (x.A * y.C)) + (IntKind.i64.wrap (x.B * y.B)))) + (IntKind.i64.wrap (x.C * y.A)))) - (IntKind.i64.wrap (x.D * y.D)))), .int .i64 (IntKind.i64.wrap ((IntKind.i64.wrap ((IntKind.i64.wrap ((IntKind.i64.wrap (x.A * y.D)) + (IntKind.i64.wrap (x.B * y.C)))) + (IntKind.i64.wrap (x.C * y.B)))) + (IntKind.i64.wrap (x.D * y.A))))]) k_pl_89 k_zero_89 rfl (mpc rfl (mpc rfl (mpc rfl (mpc rfl mpn)))) rfl) ?_
  refine ss0 rfl rfl (Ys_store (i := 2) (s := 4) (B := some ⟨b2, 0, none⟩) (T' := 89) (v := .agg #[.int .i64 (IntKind.i64.wrap ((IntKind.i64.wrap ((IntKind.i64.wrap ((IntKind.i64.wrap (x.A * y.A)) - (IntKind.i64.wrap (x.B * y.D)))) - (IntKind.i64.wrap (x.C * y.C)))) - (IntKind.i64.wrap (x.D * y.B)))), .int .i64 (IntKind.i64.wrap ((IntKind.i64.wrap ((IntKind.i64.wrap ((IntKind.i64.wrap (x.A * y.B)) + (IntKind.i64.wrap (x.B * y.A)))) - (IntKind.i64.wrap (x.C * y.D)))) - (IntKind.i64.wrap (x.D * y.C)))), .int .i64 (IntKind.i64.wrap ((IntKind.i64.wrap ((IntKind.i64.wrap ((IntKind.i64.wrap (x.A * y.C)) + (IntKind.i64.wrap (x.B * y.B)))) + (IntKind.i64.wrap (x.C * y.A)))) - (IntKind.i64.wrap (x.D * y.D)))), .int .i64 (IntKind.i64.wrap ((IntKind.i64.wrap ((IntKind.i64.wrap ((IntKind.i64.wrap (x.A * y.D)) + (IntKind.i64.wrap (x.B * y.C)))) + (IntKind.i64.wrap (x.C * y.B)))) + (IntKind.i64.wrap (x.D * y.A))))]) (vs := [.int .i64 (IntKind.i64.wrap ((IntKind.i64.wrap ((IntKind.i64.wrap ((IntKind.i64.wrap (x.A * y.A)) - (IntKind.i64.wrap (x.B * y.D)))) - (IntKind.i64.wrap (x.C * y.C)))) - (IntKind.i64.wrap (x.D * y.B)))), .int .i64 (IntKind.i64.wrap ((IntKind.i64.wrap ((IntKind.i64.wrap ((IntKind.i64.wrap (x.A * y.B)) + (IntKind.i64.wrap (x.B * y.A)))) - (IntKind.i64.wrap (x.C * y.D)))) - (IntKind.i64.wrap (x.D * y.C)))), .int .i64 (IntKind.i64.wrap ((IntKind.i64.wrap ((IntKind.i64.wrap ((IntKind.i64.wrap (x.A * y.C)) + (IntKind.i64.wrap (x.B * y.B)))) + (IntKind.i64.wrap (x.C * y.A)))) - (IntKind.i64.wrap (x.D * y.D)))), .int .i64 (IntKind.i64.wrap ((IntKind.i64.wrap ((IntKind.i64.wrap ((IntKind.i64.wrap (x.A * y.D)) + (IntKind.i64.wrap (x.B * y.C)))) + (IntKind.i64.wrap (x.C * y.B)))) + (IntKind.i64.wrap (x.D * y.A))))]) (k := 0) (cs' := [.int .i64 (IntKind.i64.wrap ((IntKind.i64.wrap ((IntKind.i64.wrap ((IntKind.i64.wrap (x.A * y.A)) - (IntKind.i64.wrap (x.B * y.D)))) - (IntKind.i64.wrap (x.C * y.C)))) - (IntKind.i64.wrap (x.D * y.B)))), .int .i64 (IntKind.i64.wrap ((IntKind.i64.wrap ((IntKind.i64.wrap ((IntKind.i64.wrap (x.A * y.B)) + (IntKind.i64.wrap (x.B * y.A)))) - (IntKind.i64.wrap (x.C * y.D)))) - (IntKind.i64.wrap (x.D * y.C)))), .int .i64 (IntKind.i64.wrap ((IntKind.i64.wrap ((IntKind.i64.wrap ((IntKind.i64.wrap (x.A * y.C)) + (IntKind.i64.wrap (x.B * y.B)))) + (IntKind.i64.wrap (x.C * y.A)))) - (IntKind.i64.wrap (x.D * y.D)))), .int .i64 (IntKind.i64.wrap ((IntKind.i64.wrap ((IntKind.i64.wrap ((IntKind.i64.wrap (x.A * y.D)) + (IntKind.i64.wrap (x.B * y.C)))) + (IntKind.i64.wrap (x.C * y.B)))) + (IntKind.i64.wrap (x.D * y.A))))]) hS3 k_sz_89_4 rfl rfl rfl rfl rfl rfl rfl (Nat.le_of_ble_eq_true rfl) rfl rfl) ?_
  rintro _ w_3 ⟨rfl, hS4⟩
  have hS4 : ST w0 [] _ [⟨some ⟨b, 0, none⟩, 89, [.int .i64 x.A, .int .i64 x.B, .int .i64 x.C, .int .i64 x.D], 4⟩, ⟨some ⟨b1, 0, none⟩, 89, [.int .i64 y.A, .int .i64 y.B, .int .i64 y.C, .int .i64 y.D], 4⟩, ⟨some ⟨b2, 0, none⟩, 89, [.int .i64 (IntKind.i64.wrap ((IntKind.i64.wrap ((IntKind.i64.wrap ((IntKind.i64.wrap (x.A * y.A)) - (IntKind.i64.wrap (x.B * y.D)))) - (IntKind.i64.wrap (x.C * y.C)))) - (IntKind.i64.wrap (x.D * y.B)))), .int .i64 (IntKind.i64.wrap ((IntKind.i64.wrap ((IntKind.i64.wrap ((IntKind.i64.wrap (x.A * y.B)) + (IntKind.i64.wrap (x.B * y.A)))) - (IntKind.i64.wrap (x.C * y.D)))) - (IntKind.i64.wrap (x.D * y.C)))), .int .i64 (IntKind.i64.wrap ((IntKind.i64.wrap ((IntKind.i64.wrap ((IntKind.i64.wrap (x.A * y.C)) + (IntKind.i64.wrap (x.B * y.B)))) + (IntKind.i64.wrap (x.C * y.A)))) - (IntKind.i64.wrap (x.D * y.D)))), .int .i64 (IntKind.i64.wrap ((IntKind.i64.wrap ((IntKind.i64.wrap ((IntKind.i64.wrap (x.A * y.D)) + (IntKind.i64.wrap (x.B * y.C)))) + (IntKind.i64.wrap (x.C * y.B)))) + (IntKind.i64.wrap (x.D * y.A))))], 4⟩] [] := hS4
  refine rw_nil ?_
  refine cw_ret ?_
  obtain rfl := some_inj hF
  exact ret1 Try.results179 (v1 := .agg #[.int .i64 (IntKind.i64.wrap ((IntKind.i64.wrap ((IntKind.i64.wrap ((IntKind.i64.wrap (x.A * y.A)) - (IntKind.i64.wrap (x.B * y.D)))) - (IntKind.i64.wrap (x.C * y.C)))) - (IntKind.i64.wrap (x.D * y.B)))), .int .i64 (IntKind.i64.wrap ((IntKind.i64.wrap ((IntKind.i64.wrap ((IntKind.i64.wrap (x.A * y.B)) + (IntKind.i64.wrap (x.B * y.A)))) - (IntKind.i64.wrap (x.C * y.D)))) - (IntKind.i64.wrap (x.D * y.C)))), .int .i64 (IntKind.i64.wrap ((IntKind.i64.wrap ((IntKind.i64.wrap ((IntKind.i64.wrap (x.A * y.C)) + (IntKind.i64.wrap (x.B * y.B)))) + (IntKind.i64.wrap (x.C * y.A)))) - (IntKind.i64.wrap (x.D * y.D)))), .int .i64 (IntKind.i64.wrap ((IntKind.i64.wrap ((IntKind.i64.wrap ((IntKind.i64.wrap (x.A * y.D)) + (IntKind.i64.wrap (x.B * y.C)))) + (IntKind.i64.wrap (x.C * y.B)))) + (IntKind.i64.wrap (x.D * y.A))))]) (resAt_cellA (B := some ⟨b2, 0, none⟩) (i := 0) (cs := [.int .i64 (IntKind.i64.wrap ((IntKind.i64.wrap ((IntKind.i64.wrap ((IntKind.i64.wrap (x.A * y.A)) - (IntKind.i64.wrap (x.B * y.D)))) - (IntKind.i64.wrap (x.C * y.C)))) - (IntKind.i64.wrap (x.D * y.B)))), .int .i64 (IntKind.i64.wrap ((IntKind.i64.wrap ((IntKind.i64.wrap ((IntKind.i64.wrap (x.A * y.B)) + (IntKind.i64.wrap (x.B * y.A)))) - (IntKind.i64.wrap (x.C * y.D)))) - (IntKind.i64.wrap (x.D * y.C)))), .int .i64 (IntKind.i64.wrap ((IntKind.i64.wrap ((IntKind.i64.wrap ((IntKind.i64.wrap (x.A * y.C)) + (IntKind.i64.wrap (x.B * y.B)))) + (IntKind.i64.wrap (x.C * y.A)))) - (IntKind.i64.wrap (x.D * y.D)))), .int .i64 (IntKind.i64.wrap ((IntKind.i64.wrap ((IntKind.i64.wrap ((IntKind.i64.wrap (x.A * y.D)) + (IntKind.i64.wrap (x.B * y.C)))) + (IntKind.i64.wrap (x.C * y.B)))) + (IntKind.i64.wrap (x.D * y.A))))]) (vs := [.int .i64 (IntKind.i64.wrap ((IntKind.i64.wrap ((IntKind.i64.wrap ((IntKind.i64.wrap (x.A * y.A)) - (IntKind.i64.wrap (x.B * y.D)))) - (IntKind.i64.wrap (x.C * y.C)))) - (IntKind.i64.wrap (x.D * y.B)))), .int .i64 (IntKind.i64.wrap ((IntKind.i64.wrap ((IntKind.i64.wrap ((IntKind.i64.wrap (x.A * y.B)) + (IntKind.i64.wrap (x.B * y.A)))) - (IntKind.i64.wrap (x.C * y.D)))) - (IntKind.i64.wrap (x.D * y.C)))), .int .i64 (IntKind.i64.wrap ((IntKind.i64.wrap ((IntKind.i64.wrap ((IntKind.i64.wrap (x.A * y.C)) + (IntKind.i64.wrap (x.B * y.B)))) + (IntKind.i64.wrap (x.C * y.A)))) - (IntKind.i64.wrap (x.D * y.D)))), .int .i64 (IntKind.i64.wrap ((IntKind.i64.wrap ((IntKind.i64.wrap ((IntKind.i64.wrap (x.A * y.D)) + (IntKind.i64.wrap (x.B * y.C)))) + (IntKind.i64.wrap (x.C * y.B)))) + (IntKind.i64.wrap (x.D * y.A))))]) rfl k_ag_89 k_sz_89_4 (hS4.cf (i := 2) rfl) rfl rfl) ⟨rfl, (ST.subR (R' := []) (hS4.sel [] rfl rfl) (fun _ h => by cases h))⟩

theorem c_spec_l2C_mul (c : Tl2C) (x : TDyadic) (y : TDyadic) (B : Option Addr) (w0 : World)  (hS : ST w0 (bl [⟨B, 126, [.bool c.bad], 1⟩]) w0 [⟨B, 126, [.bool c.bad], 1⟩] []) {r_ : TDyadic} {m : Tl2C} (hF : F_spec_l2C_mul c x y = some (r_, m)) :
    CV Try.prog 125 #[pt B 0, .agg #[.int .i64 x.Num.A, .int .i64 x.Num.B, .int .i64 x.Num.C, .int .i64 x.Num.D, .int .i64 x.Exp], .agg #[.int .i64 y.Num.A, .int .i64 y.Num.B, .int .i64 y.Num.C, .int .i64 y.Num.D, .int .i64 y.Exp]] w0 (fun v w' => v = .agg #[.int .i64 r_.Num.A, .int .i64 r_.Num.B, .int .i64 r_.Num.C, .int .i64 r_.Num.D, .int .i64 r_.Exp] ∧ ST w0 (bl [⟨B, 126, [.bool c.bad], 1⟩]) w' [⟨B, 126, [.bool m.bad], 1⟩] []) := by
  unfold F_spec_l2C_mul at hF
  refine cv_of_cw 30 Try.func125 rfl Try.ntmps125 rfl ?_
  refine cw_seq ?_
  refine cw_region ?_
  refine ss 4 rfl rfl (Ys_box (T := 91) (v := .agg #[.int .i64 x.Num.A, .int .i64 x.Num.B, .int .i64 x.Num.C, .int .i64 x.Num.D, .int .i64 x.Exp]) (cs := [.int .i64 x.Num.A, .int .i64 x.Num.B, .int .i64 x.Num.C, .int .i64 x.Num.D, .int .i64 x.Exp]) (m := 5) hS rfl rfl rfl rfl) ?_
  rintro _ w_ ⟨b, rfl, hS1⟩
  have hS1 : ST w0 (bl [⟨B, 126, [.bool c.bad], 1⟩]) _ [⟨B, 126, [.bool c.bad], 1⟩, ⟨some ⟨b, 0, none⟩, 91, [.int .i64 x.Num.A, .int .i64 x.Num.B, .int .i64 x.Num.C, .int .i64 x.Num.D, .int .i64 x.Exp], 5⟩] [] := hS1
  refine ss 5 rfl rfl (Ys_box (T := 91) (v := .agg #[.int .i64 y.Num.A, .int .i64 y.Num.B, .int .i64 y.Num.C, .int .i64 y.Num.D, .int .i64 y.Exp]) (cs := [.int .i64 y.Num.A, .int .i64 y.Num.B, .int .i64 y.Num.C, .int .i64 y.Num.D, .int .i64 y.Exp]) (m := 5) hS1 rfl rfl rfl rfl) ?_
  rintro _ w_1 ⟨b1, rfl, hS2⟩
  have hS2 : ST w0 (bl [⟨B, 126, [.bool c.bad], 1⟩]) _ [⟨B, 126, [.bool c.bad], 1⟩, ⟨some ⟨b, 0, none⟩, 91, [.int .i64 x.Num.A, .int .i64 x.Num.B, .int .i64 x.Num.C, .int .i64 x.Num.D, .int .i64 x.Exp], 5⟩, ⟨some ⟨b1, 0, none⟩, 91, [.int .i64 y.Num.A, .int .i64 y.Num.B, .int .i64 y.Num.C, .int .i64 y.Num.D, .int .i64 y.Exp], 5⟩] [] := hS2
  refine ss 6 rfl rfl (Ys_alloc (T := 91) (cs := [.int .i64 0, .int .i64 0, .int .i64 0, .int .i64 0, .int .i64 0]) (m := 5) hS2 k_zero_91 rfl rfl rfl) ?_
  rintro _ w_2 ⟨b2, rfl, hS3⟩
  have hS3 : ST w0 (bl [⟨B, 126, [.bool c.bad], 1⟩]) _ [⟨B, 126, [.bool c.bad], 1⟩, ⟨some ⟨b, 0, none⟩, 91, [.int .i64 x.Num.A, .int .i64 x.Num.B, .int .i64 x.Num.C, .int .i64 x.Num.D, .int .i64 x.Exp], 5⟩, ⟨some ⟨b1, 0, none⟩, 91, [.int .i64 y.Num.A, .int .i64 y.Num.B, .int .i64 y.Num.C, .int .i64 y.Num.D, .int .i64 y.Exp], 5⟩, ⟨some ⟨b2, 0, none⟩, 91, [.int .i64 0, .int .i64 0, .int .i64 0, .int .i64 0, .int .i64 0], 5⟩] [] := hS3
  refine rw_nil ?_
  refine cw_seq ?_
  refine cw_seq ?_
  refine cw_region ?_
  refine sq 7 rfl rfl (Y_fieldAddr (B := some ⟨b, 0, none⟩) (i := 0) (s := 0) k_fd_91_1_4_3 k_sz_3_1 rfl rfl) ?_
  refine sq 8 rfl rfl (Y_load1 (B := some ⟨b, 0, none⟩) (i := 4) (cs := [.int .i64 x.Num.A, .int .i64 x.Num.B, .int .i64 x.Num.C, .int .i64 x.Num.D, .int .i64 x.Exp]) (v := .int .i64 x.Exp) k_sc_3 rfl rfl (hS3.cf (i := 1) rfl) rfl) ?_
  refine sq 9 rfl rfl (Y_fieldAddr (B := some ⟨b1, 0, none⟩) (i := 0) (s := 0) k_fd_91_1_4_3 k_sz_3_1 rfl rfl) ?_
  refine sq 10 rfl rfl (Y_load1 (B := some ⟨b1, 0, none⟩) (i := 4) (cs := [.int .i64 y.Num.A, .int .i64 y.Num.B, .int .i64 y.Num.C, .int .i64 y.Num.D, .int .i64 y.Exp]) (v := .int .i64 y.Exp) k_sc_3 rfl rfl (hS3.cf (i := 2) rfl) rfl) ?_
  refine sq 11 rfl rfl (Y_add (k := .i64) (a := x.Exp) (b := y.Exp) rfl rfl rfl) ?_
  refine sq 12 rfl rfl (Y_gt (k := .i64) (a := (IntKind.i64.wrap (x.Exp + y.Exp))) (b := 60) rfl rfl rfl) ?_
  refine rw_nil ?_
  refine cw_cond (b := (decide (60 < (IntKind.i64.wrap (x.Exp + y.Exp))))) rfl (fun hb => ?_) (fun hb => ?_)
  · skip
    have hF1 := ct hF hb
    refine cw_seq ?_
    refine cw_region ?_
    refine sq 13 rfl rfl (Y_move (v := pt B 0) rfl rfl) ?_
    refine sq 14 rfl rfl (Y_nilCheck (B := B) (i := 0) rfl rfl) ?_
    refine sq 15 rfl rfl (Y_fieldAddr (B := B) (i := 0) (s := 0) k_fd_126_0_0_4 k_sz_4_1 rfl rfl) ?_
    refine ss0 rfl rfl (Ys_store (i := 0) (s := 1) (B := B) (T' := 126) (v := .bool true) (vs := [.bool true]) (k := 0) (cs' := [.bool true]) hS3 k_sz_4_1 rfl rfl rfl rfl rfl rfl rfl (Nat.le_of_ble_eq_true rfl) rfl rfl) ?_
    rintro _ w_3 ⟨rfl, hS4⟩
    have hS4 : ST w0 (bl [⟨B, 126, [.bool c.bad], 1⟩]) _ [⟨B, 126, [.bool true], 1⟩, ⟨some ⟨b, 0, none⟩, 91, [.int .i64 x.Num.A, .int .i64 x.Num.B, .int .i64 x.Num.C, .int .i64 x.Num.D, .int .i64 x.Exp], 5⟩, ⟨some ⟨b1, 0, none⟩, 91, [.int .i64 y.Num.A, .int .i64 y.Num.B, .int .i64 y.Num.C, .int .i64 y.Num.D, .int .i64 y.Exp], 5⟩, ⟨some ⟨b2, 0, none⟩, 91, [.int .i64 0, .int .i64 0, .int .i64 0, .int .i64 0, .int .i64 0], 5⟩] [] := hS4
    refine rw_nil ?_
    refine cw_seq ?_
    refine cw_region ?_
    refine sq 16 rfl rfl (Y_buildS (zs := [.int .i64 0, .int .i64 0, .int .i64 0, .int .i64 0, .int .i64 0]) (vs := []) (cs := [.int .i64 0, .int .i64 0, .int .i64 0, .int .i64 0, .int .i64 0]) k_pl_91 k_zero_91 rfl mpn rfl) ?_
    refine ss0 rfl rfl (Ys_store (i := 3) (s := 5) (B := some ⟨b2, 0, none⟩) (T' := 91) (v := .agg #[.int .i64 0, .int .i64 0, .int .i64 0, .int .i64 0, .int .i64 0]) (vs := [.int .i64 0, .int .i64 0, .int .i64 0, .int .i64 0, .int .i64 0]) (k := 0) (cs' := [.int .i64 0, .int .i64 0, .int .i64 0, .int .i64 0, .int .i64 0]) hS4 k_sz_91_5 rfl rfl rfl rfl rfl rfl rfl (Nat.le_of_ble_eq_true rfl) rfl rfl) ?_
    rintro _ w_4 ⟨rfl, hS5⟩
    have hS5 : ST w0 (bl [⟨B, 126, [.bool c.bad], 1⟩]) _ [⟨B, 126, [.bool true], 1⟩, ⟨some ⟨b, 0, none⟩, 91, [.int .i64 x.Num.A, .int .i64 x.Num.B, .int .i64 x.Num.C, .int .i64 x.Num.D, .int .i64 x.Exp], 5⟩, ⟨some ⟨b1, 0, none⟩, 91, [.int .i64 y.Num.A, .int .i64 y.Num.B, .int .i64 y.Num.C, .int .i64 y.Num.D, .int .i64 y.Exp], 5⟩, ⟨some ⟨b2, 0, none⟩, 91, [.int .i64 0, .int .i64 0, .int .i64 0, .int .i64 0, .int .i64 0], 5⟩] [] := hS5
    refine rw_nil ?_
    refine cw_ret ?_
    obtain ⟨rfl, rfl⟩ := pr2 (some_inj hF1)
    exact ret1 Try.results125 (v1 := .agg #[.int .i64 0, .int .i64 0, .int .i64 0, .int .i64 0, .int .i64 0]) (resAt_cellA (B := some ⟨b2, 0, none⟩) (i := 0) (cs := [.int .i64 0, .int .i64 0, .int .i64 0, .int .i64 0, .int .i64 0]) (vs := [.int .i64 0, .int .i64 0, .int .i64 0, .int .i64 0, .int .i64 0]) rfl k_ag_91 k_sz_91_5 (hS5.cf (i := 3) rfl) rfl rfl) ⟨rfl, (ST.subR (R' := []) (hS5.sel [0] rfl rfl) (fun _ h => by cases h))⟩
  · skip
    have hF2 := cf' hF hb
    refine cw_skip ?_
    refine cw_seq ?_
    obtain ⟨r_1, hc, hF2⟩ := bind_inv hF2
    obtain ⟨⟨r_2, m1⟩, hc1, hF2⟩ := bind_inv hF2
    obtain ⟨r_3, hc2, hF2⟩ := bind_inv hF2
    refine ra_start (ST.sel hS3 [1, 2] rfl rfl).fn (by kernel_rfl) ?_
    have hS9 := hS3.drew
    refine ra_q 0 17 (v := pt B 0) rfl rfl rfl (by kernel_rfl) (by kernel_rfl) (by kernel_rfl) (ST.sel hS9 [1, 2] rfl rfl) (fun w' hw' => (Y_move (v := pt B 0) rfl rfl)) ?_
    refine ra_q 1 18 (v := pt (some ⟨b, 0, none⟩) 0) rfl rfl rfl (by kernel_rfl) (by kernel_rfl) (by kernel_rfl) (ST.sel hS9 [1, 2] rfl rfl) (fun w' hw' => (Y_fieldAddr (B := some ⟨b, 0, none⟩) (i := 0) (s := 3) k_fd_91_0_0_89 k_sz_89_4 rfl rfl)) ?_
    refine ra_q 2 19 (v := .agg #[.int .i64 x.Num.A, .int .i64 x.Num.B, .int .i64 x.Num.C, .int .i64 x.Num.D]) rfl rfl rfl (by kernel_rfl) (by kernel_rfl) (by kernel_rfl) (ST.sel hS9 [1, 2] rfl rfl) (fun w' hw' => (Y_loadA (B := some ⟨b, 0, none⟩) (i := 0) (cs := [.int .i64 x.Num.A, .int .i64 x.Num.B, .int .i64 x.Num.C, .int .i64 x.Num.D, .int .i64 x.Exp]) (vs := [.int .i64 x.Num.A, .int .i64 x.Num.B, .int .i64 x.Num.C, .int .i64 x.Num.D]) k_ag_89 k_sz_89_4 rfl rfl (ST.cf hw' (i := 0) rfl) rfl rfl)) ?_
    refine ra_q 3 20 (v := pt (some ⟨b1, 0, none⟩) 0) rfl rfl rfl (by kernel_rfl) (by kernel_rfl) (by kernel_rfl) (ST.sel hS9 [1, 2] rfl rfl) (fun w' hw' => (Y_fieldAddr (B := some ⟨b1, 0, none⟩) (i := 0) (s := 3) k_fd_91_0_0_89 k_sz_89_4 rfl rfl)) ?_
    refine ra_q 4 21 (v := .agg #[.int .i64 y.Num.A, .int .i64 y.Num.B, .int .i64 y.Num.C, .int .i64 y.Num.D]) rfl rfl rfl (by kernel_rfl) (by kernel_rfl) (by kernel_rfl) (ST.sel hS9 [1, 2] rfl rfl) (fun w' hw' => (Y_loadA (B := some ⟨b1, 0, none⟩) (i := 0) (cs := [.int .i64 y.Num.A, .int .i64 y.Num.B, .int .i64 y.Num.C, .int .i64 y.Num.D, .int .i64 y.Exp]) (vs := [.int .i64 y.Num.A, .int .i64 y.Num.B, .int .i64 y.Num.C, .int .i64 y.Num.D]) k_ag_89 k_sz_89_4 rfl rfl (ST.cf hw' (i := 1) rfl) rfl rfl)) ?_
    refine ra_q 7 24 (v := pt (some ⟨b, 0, none⟩) 4) rfl rfl rfl (by kernel_rfl) (by kernel_rfl) (by kernel_rfl) (ST.sel hS9 [1, 2] rfl rfl) (fun w' hw' => (Y_fieldAddr (B := some ⟨b, 0, none⟩) (i := 0) (s := 0) k_fd_91_1_4_3 k_sz_3_1 rfl rfl)) ?_
    refine ra_q 8 25 (v := .int .i64 x.Exp) rfl rfl rfl (by kernel_rfl) (by kernel_rfl) (by kernel_rfl) (ST.sel hS9 [1, 2] rfl rfl) (fun w' hw' => (Y_load1 (B := some ⟨b, 0, none⟩) (i := 4) (cs := [.int .i64 x.Num.A, .int .i64 x.Num.B, .int .i64 x.Num.C, .int .i64 x.Num.D, .int .i64 x.Exp]) (v := .int .i64 x.Exp) k_sc_3 rfl rfl (ST.cf hw' (i := 0) rfl) rfl)) ?_
    refine ra_q 9 26 (v := pt (some ⟨b1, 0, none⟩) 4) rfl rfl rfl (by kernel_rfl) (by kernel_rfl) (by kernel_rfl) (ST.sel hS9 [1, 2] rfl rfl) (fun w' hw' => (Y_fieldAddr (B := some ⟨b1, 0, none⟩) (i := 0) (s := 0) k_fd_91_1_4_3 k_sz_3_1 rfl rfl)) ?_
    refine ra_q 10 27 (v := .int .i64 y.Exp) rfl rfl rfl (by kernel_rfl) (by kernel_rfl) (by kernel_rfl) (ST.sel hS9 [1, 2] rfl rfl) (fun w' hw' => (Y_load1 (B := some ⟨b1, 0, none⟩) (i := 4) (cs := [.int .i64 y.Num.A, .int .i64 y.Num.B, .int .i64 y.Num.C, .int .i64 y.Num.D, .int .i64 y.Exp]) (v := .int .i64 y.Exp) k_sc_3 rfl rfl (ST.cf hw' (i := 1) rfl) rfl)) ?_
    refine ra_q 11 28 (v := .int .i64 (IntKind.i64.wrap (x.Exp + y.Exp))) rfl rfl rfl (by kernel_rfl) (by kernel_rfl) (by kernel_rfl) (ST.sel hS9 [1, 2] rfl rfl) (fun w' hw' => (Y_add (k := .i64) (a := x.Exp) (b := y.Exp) rfl rfl rfl)) ?_
    refine ra_all (rs := [5]) (by kernel_rfl) rfl ?_
    refine ra_c 22 (i := 5) rfl rfl rfl (Yc_func (g := 179) (vs := [.agg #[.int .i64 x.Num.A, .int .i64 x.Num.B, .int .i64 x.Num.C, .int .i64 x.Num.D], .agg #[.int .i64 y.Num.A, .int .i64 y.Num.B, .int .i64 y.Num.C, .int .i64 y.Num.D]]) k_call_179 rfl (mc rfl (mc rfl mn)) (c_spec_l1Mul x.Num y.Num _  (hS9.inn0 [] rfl) hc)) ?_ ?_
    · rintro _ w_5 ⟨rfl, hd⟩
      have hS10 := hS9.out00 hd
      have hS10 : ST w0 (bl [⟨B, 126, [.bool c.bad], 1⟩]) _ [⟨B, 126, [.bool c.bad], 1⟩, ⟨some ⟨b, 0, none⟩, 91, [.int .i64 x.Num.A, .int .i64 x.Num.B, .int .i64 x.Num.C, .int .i64 x.Num.D, .int .i64 x.Exp], 5⟩, ⟨some ⟨b1, 0, none⟩, 91, [.int .i64 y.Num.A, .int .i64 y.Num.B, .int .i64 y.Num.C, .int .i64 y.Num.D, .int .i64 y.Exp], 5⟩, ⟨some ⟨b2, 0, none⟩, 91, [.int .i64 0, .int .i64 0, .int .i64 0, .int .i64 0, .int .i64 0], 5⟩] [] := hS10
      refine ⟨(ST.sel hS10 [1, 2] rfl rfl), ?_⟩
      refine ra_all (rs := [6]) (by kernel_rfl) rfl ?_
      refine ra_c 23 (i := 6) rfl rfl rfl (Yc_func (g := 178) (vs := [pt B 0, .agg #[.int .i64 r_1.A, .int .i64 r_1.B, .int .i64 r_1.C, .int .i64 r_1.D]]) k_call_178 rfl (mc rfl (mc rfl mn)) (c_spec_l2C_ring c r_1 B _  (hS10.inn [true, false, false, false] rfl [] rfl) hc1)) ?_ ?_
      · rintro _ w_6 ⟨rfl, hd1⟩
        have hS11 := hS10.out [true, false, false, false] rfl hd1
        have hS11 : ST w0 (bl [⟨B, 126, [.bool c.bad], 1⟩]) _ [⟨some ⟨b, 0, none⟩, 91, [.int .i64 x.Num.A, .int .i64 x.Num.B, .int .i64 x.Num.C, .int .i64 x.Num.D, .int .i64 x.Exp], 5⟩, ⟨some ⟨b1, 0, none⟩, 91, [.int .i64 y.Num.A, .int .i64 y.Num.B, .int .i64 y.Num.C, .int .i64 y.Num.D, .int .i64 y.Exp], 5⟩, ⟨some ⟨b2, 0, none⟩, 91, [.int .i64 0, .int .i64 0, .int .i64 0, .int .i64 0, .int .i64 0], 5⟩, ⟨B, 126, [.bool m1.bad], 1⟩] [] := hS11
        refine ⟨(ST.sel hS11 [0, 1] rfl rfl), ?_⟩
        refine ra_all (rs := [12]) (by kernel_rfl) rfl ?_
        refine ra_c 29 (i := 12) rfl rfl rfl (Yc_func (g := 177) (vs := [.agg #[.int .i64 r_2.A, .int .i64 r_2.B, .int .i64 r_2.C, .int .i64 r_2.D], .int .i64 (IntKind.i64.wrap (x.Exp + y.Exp))]) k_call_177 rfl (mc rfl (mc rfl mn)) (c_spec_l2Low r_2 (IntKind.i64.wrap (x.Exp + y.Exp)) _  (hS11.inn0 [] rfl) hc2)) ?_ ?_
        · rintro _ w_7 ⟨rfl, hd2⟩
          have hS12 := hS11.out00 hd2
          have hS12 : ST w0 (bl [⟨B, 126, [.bool c.bad], 1⟩]) _ [⟨some ⟨b, 0, none⟩, 91, [.int .i64 x.Num.A, .int .i64 x.Num.B, .int .i64 x.Num.C, .int .i64 x.Num.D, .int .i64 x.Exp], 5⟩, ⟨some ⟨b1, 0, none⟩, 91, [.int .i64 y.Num.A, .int .i64 y.Num.B, .int .i64 y.Num.C, .int .i64 y.Num.D, .int .i64 y.Exp], 5⟩, ⟨some ⟨b2, 0, none⟩, 91, [.int .i64 0, .int .i64 0, .int .i64 0, .int .i64 0, .int .i64 0], 5⟩, ⟨B, 126, [.bool m1.bad], 1⟩] [] := hS12
          refine ⟨(ST.sel hS12 [0, 1] rfl rfl), ?_⟩
          refine ra_all (rs := [13]) (by kernel_rfl) rfl ?_
          refine ra_s0 (i := 13) rfl rfl rfl (Ys_store (i := 2) (s := 5) (B := some ⟨b2, 0, none⟩) (T' := 91) (v := .agg #[.int .i64 r_3.Num.A, .int .i64 r_3.Num.B, .int .i64 r_3.Num.C, .int .i64 r_3.Num.D, .int .i64 r_3.Exp]) (vs := [.int .i64 r_3.Num.A, .int .i64 r_3.Num.B, .int .i64 r_3.Num.C, .int .i64 r_3.Num.D, .int .i64 r_3.Exp]) (k := 0) (cs' := [.int .i64 r_3.Num.A, .int .i64 r_3.Num.B, .int .i64 r_3.Num.C, .int .i64 r_3.Num.D, .int .i64 r_3.Exp]) hS12 k_sz_91_5 rfl rfl rfl rfl rfl rfl rfl (Nat.le_of_ble_eq_true rfl) rfl rfl) ?_ ?_
          · rintro _ w_8 ⟨rfl, hS13⟩
            have hS13 : ST w0 (bl [⟨B, 126, [.bool c.bad], 1⟩]) _ [⟨some ⟨b, 0, none⟩, 91, [.int .i64 x.Num.A, .int .i64 x.Num.B, .int .i64 x.Num.C, .int .i64 x.Num.D, .int .i64 x.Exp], 5⟩, ⟨some ⟨b1, 0, none⟩, 91, [.int .i64 y.Num.A, .int .i64 y.Num.B, .int .i64 y.Num.C, .int .i64 y.Num.D, .int .i64 y.Exp], 5⟩, ⟨some ⟨b2, 0, none⟩, 91, [.int .i64 r_3.Num.A, .int .i64 r_3.Num.B, .int .i64 r_3.Num.C, .int .i64 r_3.Num.D, .int .i64 r_3.Exp], 5⟩, ⟨B, 126, [.bool m1.bad], 1⟩] [] := hS13
            refine ⟨(ST.sel hS13 [0, 1] rfl rfl), ?_⟩
            refine ra_done (by kernel_rfl) ?_
            refine cw_ret ?_
            obtain ⟨rfl, rfl⟩ := pr2 (some_inj hF2)
            exact ret1 Try.results125 (v1 := .agg #[.int .i64 r_3.Num.A, .int .i64 r_3.Num.B, .int .i64 r_3.Num.C, .int .i64 r_3.Num.D, .int .i64 r_3.Exp]) (resAt_cellA (B := some ⟨b2, 0, none⟩) (i := 0) (cs := [.int .i64 r_3.Num.A, .int .i64 r_3.Num.B, .int .i64 r_3.Num.C, .int .i64 r_3.Num.D, .int .i64 r_3.Exp]) (vs := [.int .i64 r_3.Num.A, .int .i64 r_3.Num.B, .int .i64 r_3.Num.C, .int .i64 r_3.Num.D, .int .i64 r_3.Exp]) rfl k_ag_91 k_sz_91_5 (hS13.cf (i := 2) rfl) rfl rfl) ⟨rfl, (ST.subR (R' := []) (hS13.sel [3] rfl rfl) (fun _ h => by cases h))⟩
          exact allR_nil
        exact allR_nil
      exact allR_nil
    exact allR_nil

theorem c_spec_l1Add (x : TRing) (y : TRing)  (w0 : World)  (hS : ST w0 [] w0 [] []) {r_ : TRing} (hF : F_spec_l1Add x y = some r_) :
    CV Try.prog 181 #[.agg #[.int .i64 x.A, .int .i64 x.B, .int .i64 x.C, .int .i64 x.D], .agg #[.int .i64 y.A, .int .i64 y.B, .int .i64 y.C, .int .i64 y.D]] w0 (fun v w' => v = .agg #[.int .i64 r_.A, .int .i64 r_.B, .int .i64 r_.C, .int .i64 r_.D] ∧ ST w0 [] w' [] []) := by
  unfold F_spec_l1Add at hF
  refine cv_of_cw 26 Try.func181 rfl Try.ntmps181 rfl ?_
  refine cw_seq ?_
  refine cw_region ?_
  refine ss 2 rfl rfl (Ys_box (T := 89) (v := .agg #[.int .i64 x.A, .int .i64 x.B, .int .i64 x.C, .int .i64 x.D]) (cs := [.int .i64 x.A, .int .i64 x.B, .int .i64 x.C, .int .i64 x.D]) (m := 4) hS rfl rfl rfl rfl) ?_
  rintro _ w_ ⟨b, rfl, hS1⟩
  refine ss 3 rfl rfl (Ys_box (T := 89) (v := .agg #[.int .i64 y.A, .int .i64 y.B, .int .i64 y.C, .int .i64 y.D]) (cs := [.int .i64 y.A, .int .i64 y.B, .int .i64 y.C, .int .i64 y.D]) (m := 4) hS1 rfl rfl rfl rfl) ?_
  rintro _ w_1 ⟨b1, rfl, hS2⟩
  have hS2 : ST w0 [] _ [⟨some ⟨b, 0, none⟩, 89, [.int .i64 x.A, .int .i64 x.B, .int .i64 x.C, .int .i64 x.D], 4⟩, ⟨some ⟨b1, 0, none⟩, 89, [.int .i64 y.A, .int .i64 y.B, .int .i64 y.C, .int .i64 y.D], 4⟩] [] := hS2
  refine ss 4 rfl rfl (Ys_alloc (T := 89) (cs := [.int .i64 0, .int .i64 0, .int .i64 0, .int .i64 0]) (m := 4) hS2 k_zero_89 rfl rfl rfl) ?_
  rintro _ w_2 ⟨b2, rfl, hS3⟩
  have hS3 : ST w0 [] _ [⟨some ⟨b, 0, none⟩, 89, [.int .i64 x.A, .int .i64 x.B, .int .i64 x.C, .int .i64 x.D], 4⟩, ⟨some ⟨b1, 0, none⟩, 89, [.int .i64 y.A, .int .i64 y.B, .int .i64 y.C, .int .i64 y.D], 4⟩, ⟨some ⟨b2, 0, none⟩, 89, [.int .i64 0, .int .i64 0, .int .i64 0, .int .i64 0], 4⟩] [] := hS3
  refine rw_nil ?_
  refine cw_seq ?_
  refine cw_region ?_
  refine sq 5 rfl rfl (Y_fieldAddr (B := some ⟨b, 0, none⟩) (i := 0) (s := 0) k_fd_89_0_0_3 k_sz_3_1 rfl rfl) ?_
  refine sq 6 rfl rfl (Y_load1 (B := some ⟨b, 0, none⟩) (i := 0) (cs := [.int .i64 x.A, .int .i64 x.B, .int .i64 x.C, .int .i64 x.D]) (v := .int .i64 x.A) k_sc_3 rfl rfl (hS3.cf (i := 0) rfl) rfl) ?_
  refine sq 7 rfl rfl (Y_fieldAddr (B := some ⟨b1, 0, none⟩) (i := 0) (s := 0) k_fd_89_0_0_3 k_sz_3_1 rfl rfl) ?_
  refine sq 8 rfl rfl (Y_load1 (B := some ⟨b1, 0, none⟩) (i := 0) (cs := [.int .i64 y.A, .int .i64 y.B, .int .i64 y.C, .int .i64 y.D]) (v := .int .i64 y.A) k_sc_3 rfl rfl (hS3.cf (i := 1) rfl) rfl) ?_
  refine sq 9 rfl rfl (Y_add (k := .i64) (a := x.A) (b := y.A) rfl rfl rfl) ?_
  refine sq 10 rfl rfl (Y_fieldAddr (B := some ⟨b, 0, none⟩) (i := 0) (s := 0) k_fd_89_1_1_3 k_sz_3_1 rfl rfl) ?_
  refine sq 11 rfl rfl (Y_load1 (B := some ⟨b, 0, none⟩) (i := 1) (cs := [.int .i64 x.A, .int .i64 x.B, .int .i64 x.C, .int .i64 x.D]) (v := .int .i64 x.B) k_sc_3 rfl rfl (hS3.cf (i := 0) rfl) rfl) ?_
  refine sq 12 rfl rfl (Y_fieldAddr (B := some ⟨b1, 0, none⟩) (i := 0) (s := 0) k_fd_89_1_1_3 k_sz_3_1 rfl rfl) ?_
  refine sq 13 rfl rfl (Y_load1 (B := some ⟨b1, 0, none⟩) (i := 1) (cs := [.int .i64 y.A, .int .i64 y.B, .int .i64 y.C, .int .i64 y.D]) (v := .int .i64 y.B) k_sc_3 rfl rfl (hS3.cf (i := 1) rfl) rfl) ?_
  refine sq 14 rfl rfl (Y_add (k := .i64) (a := x.B) (b := y.B) rfl rfl rfl) ?_
  refine sq 15 rfl rfl (Y_fieldAddr (B := some ⟨b, 0, none⟩) (i := 0) (s := 0) k_fd_89_2_2_3 k_sz_3_1 rfl rfl) ?_
  refine sq 16 rfl rfl (Y_load1 (B := some ⟨b, 0, none⟩) (i := 2) (cs := [.int .i64 x.A, .int .i64 x.B, .int .i64 x.C, .int .i64 x.D]) (v := .int .i64 x.C) k_sc_3 rfl rfl (hS3.cf (i := 0) rfl) rfl) ?_
  refine sq 17 rfl rfl (Y_fieldAddr (B := some ⟨b1, 0, none⟩) (i := 0) (s := 0) k_fd_89_2_2_3 k_sz_3_1 rfl rfl) ?_
  refine sq 18 rfl rfl (Y_load1 (B := some ⟨b1, 0, none⟩) (i := 2) (cs := [.int .i64 y.A, .int .i64 y.B, .int .i64 y.C, .int .i64 y.D]) (v := .int .i64 y.C) k_sc_3 rfl rfl (hS3.cf (i := 1) rfl) rfl) ?_
  refine sq 19 rfl rfl (Y_add (k := .i64) (a := x.C) (b := y.C) rfl rfl rfl) ?_
  refine sq 20 rfl rfl (Y_fieldAddr (B := some ⟨b, 0, none⟩) (i := 0) (s := 0) k_fd_89_3_3_3 k_sz_3_1 rfl rfl) ?_
  refine sq 21 rfl rfl (Y_load1 (B := some ⟨b, 0, none⟩) (i := 3) (cs := [.int .i64 x.A, .int .i64 x.B, .int .i64 x.C, .int .i64 x.D]) (v := .int .i64 x.D) k_sc_3 rfl rfl (hS3.cf (i := 0) rfl) rfl) ?_
  refine sq 22 rfl rfl (Y_fieldAddr (B := some ⟨b1, 0, none⟩) (i := 0) (s := 0) k_fd_89_3_3_3 k_sz_3_1 rfl rfl) ?_
  refine sq 23 rfl rfl (Y_load1 (B := some ⟨b1, 0, none⟩) (i := 3) (cs := [.int .i64 y.A, .int .i64 y.B, .int .i64 y.C, .int .i64 y.D]) (v := .int .i64 y.D) k_sc_3 rfl rfl (hS3.cf (i := 1) rfl) rfl) ?_
  refine sq 24 rfl rfl (Y_add (k := .i64) (a := x.D) (b := y.D) rfl rfl rfl) ?_
  refine sq 25 rfl rfl (Y_buildS (zs := [.int .i64 0, .int .i64 0, .int .i64 0, .int .i64 0]) (vs := [(0, .int .i64 (IntKind.i64.wrap (x.A + y.A))), (1, .int .i64 (IntKind.i64.wrap (x.B + y.B))), (2, .int .i64 (IntKind.i64.wrap (x.C + y.C))), (3, .int .i64 (IntKind.i64.wrap (x.D + y.D)))]) (cs := [.int .i64 (IntKind.i64.wrap (x.A + y.A)), .int .i64 (IntKind.i64.wrap (x.B + y.B)), .int .i64 (IntKind.i64.wrap (x.C + y.C)), .int .i64 (IntKind.i64.wrap (x.D + y.D))]) k_pl_89 k_zero_89 rfl (mpc rfl (mpc rfl (mpc rfl (mpc rfl mpn)))) rfl) ?_
  refine ss0 rfl rfl (Ys_store (i := 2) (s := 4) (B := some ⟨b2, 0, none⟩) (T' := 89) (v := .agg #[.int .i64 (IntKind.i64.wrap (x.A + y.A)), .int .i64 (IntKind.i64.wrap (x.B + y.B)), .int .i64 (IntKind.i64.wrap (x.C + y.C)), .int .i64 (IntKind.i64.wrap (x.D + y.D))]) (vs := [.int .i64 (IntKind.i64.wrap (x.A + y.A)), .int .i64 (IntKind.i64.wrap (x.B + y.B)), .int .i64 (IntKind.i64.wrap (x.C + y.C)), .int .i64 (IntKind.i64.wrap (x.D + y.D))]) (k := 0) (cs' := [.int .i64 (IntKind.i64.wrap (x.A + y.A)), .int .i64 (IntKind.i64.wrap (x.B + y.B)), .int .i64 (IntKind.i64.wrap (x.C + y.C)), .int .i64 (IntKind.i64.wrap (x.D + y.D))]) hS3 k_sz_89_4 rfl rfl rfl rfl rfl rfl rfl (Nat.le_of_ble_eq_true rfl) rfl rfl) ?_
  rintro _ w_3 ⟨rfl, hS4⟩
  have hS4 : ST w0 [] _ [⟨some ⟨b, 0, none⟩, 89, [.int .i64 x.A, .int .i64 x.B, .int .i64 x.C, .int .i64 x.D], 4⟩, ⟨some ⟨b1, 0, none⟩, 89, [.int .i64 y.A, .int .i64 y.B, .int .i64 y.C, .int .i64 y.D], 4⟩, ⟨some ⟨b2, 0, none⟩, 89, [.int .i64 (IntKind.i64.wrap (x.A + y.A)), .int .i64 (IntKind.i64.wrap (x.B + y.B)), .int .i64 (IntKind.i64.wrap (x.C + y.C)), .int .i64 (IntKind.i64.wrap (x.D + y.D))], 4⟩] [] := hS4
  refine rw_nil ?_
  refine cw_ret ?_
  obtain rfl := some_inj hF
  exact ret1 Try.results181 (v1 := .agg #[.int .i64 (IntKind.i64.wrap (x.A + y.A)), .int .i64 (IntKind.i64.wrap (x.B + y.B)), .int .i64 (IntKind.i64.wrap (x.C + y.C)), .int .i64 (IntKind.i64.wrap (x.D + y.D))]) (resAt_cellA (B := some ⟨b2, 0, none⟩) (i := 0) (cs := [.int .i64 (IntKind.i64.wrap (x.A + y.A)), .int .i64 (IntKind.i64.wrap (x.B + y.B)), .int .i64 (IntKind.i64.wrap (x.C + y.C)), .int .i64 (IntKind.i64.wrap (x.D + y.D))]) (vs := [.int .i64 (IntKind.i64.wrap (x.A + y.A)), .int .i64 (IntKind.i64.wrap (x.B + y.B)), .int .i64 (IntKind.i64.wrap (x.C + y.C)), .int .i64 (IntKind.i64.wrap (x.D + y.D))]) rfl k_ag_89 k_sz_89_4 (hS4.cf (i := 2) rfl) rfl rfl) ⟨rfl, (ST.subR (R' := []) (hS4.sel [] rfl rfl) (fun _ h => by cases h))⟩

theorem c_spec_l2C_add (c : Tl2C) (x : TDyadic) (y : TDyadic) (B : Option Addr) (w0 : World)  (hS : ST w0 (bl [⟨B, 126, [.bool c.bad], 1⟩]) w0 [⟨B, 126, [.bool c.bad], 1⟩] []) {r_ : TDyadic} {m : Tl2C} (hF : F_spec_l2C_add c x y = some (r_, m)) :
    CV Try.prog 127 #[pt B 0, .agg #[.int .i64 x.Num.A, .int .i64 x.Num.B, .int .i64 x.Num.C, .int .i64 x.Num.D, .int .i64 x.Exp], .agg #[.int .i64 y.Num.A, .int .i64 y.Num.B, .int .i64 y.Num.C, .int .i64 y.Num.D, .int .i64 y.Exp]] w0 (fun v w' => v = .agg #[.int .i64 r_.Num.A, .int .i64 r_.Num.B, .int .i64 r_.Num.C, .int .i64 r_.Num.D, .int .i64 r_.Exp] ∧ ST w0 (bl [⟨B, 126, [.bool c.bad], 1⟩]) w' [⟨B, 126, [.bool m.bad], 1⟩] []) := by
  unfold F_spec_l2C_add at hF
  refine cv_of_cw 45 Try.func127 rfl Try.ntmps127 rfl ?_
  refine cw_seq ?_
  refine cw_region ?_
  refine ss 4 rfl rfl (Ys_box (T := 91) (v := .agg #[.int .i64 x.Num.A, .int .i64 x.Num.B, .int .i64 x.Num.C, .int .i64 x.Num.D, .int .i64 x.Exp]) (cs := [.int .i64 x.Num.A, .int .i64 x.Num.B, .int .i64 x.Num.C, .int .i64 x.Num.D, .int .i64 x.Exp]) (m := 5) hS rfl rfl rfl rfl) ?_
  rintro _ w_ ⟨b, rfl, hS1⟩
  have hS1 : ST w0 (bl [⟨B, 126, [.bool c.bad], 1⟩]) _ [⟨B, 126, [.bool c.bad], 1⟩, ⟨some ⟨b, 0, none⟩, 91, [.int .i64 x.Num.A, .int .i64 x.Num.B, .int .i64 x.Num.C, .int .i64 x.Num.D, .int .i64 x.Exp], 5⟩] [] := hS1
  refine ss 5 rfl rfl (Ys_box (T := 91) (v := .agg #[.int .i64 y.Num.A, .int .i64 y.Num.B, .int .i64 y.Num.C, .int .i64 y.Num.D, .int .i64 y.Exp]) (cs := [.int .i64 y.Num.A, .int .i64 y.Num.B, .int .i64 y.Num.C, .int .i64 y.Num.D, .int .i64 y.Exp]) (m := 5) hS1 rfl rfl rfl rfl) ?_
  rintro _ w_1 ⟨b1, rfl, hS2⟩
  have hS2 : ST w0 (bl [⟨B, 126, [.bool c.bad], 1⟩]) _ [⟨B, 126, [.bool c.bad], 1⟩, ⟨some ⟨b, 0, none⟩, 91, [.int .i64 x.Num.A, .int .i64 x.Num.B, .int .i64 x.Num.C, .int .i64 x.Num.D, .int .i64 x.Exp], 5⟩, ⟨some ⟨b1, 0, none⟩, 91, [.int .i64 y.Num.A, .int .i64 y.Num.B, .int .i64 y.Num.C, .int .i64 y.Num.D, .int .i64 y.Exp], 5⟩] [] := hS2
  refine ss 6 rfl rfl (Ys_alloc (T := 91) (cs := [.int .i64 0, .int .i64 0, .int .i64 0, .int .i64 0, .int .i64 0]) (m := 5) hS2 k_zero_91 rfl rfl rfl) ?_
  rintro _ w_2 ⟨b2, rfl, hS3⟩
  have hS3 : ST w0 (bl [⟨B, 126, [.bool c.bad], 1⟩]) _ [⟨B, 126, [.bool c.bad], 1⟩, ⟨some ⟨b, 0, none⟩, 91, [.int .i64 x.Num.A, .int .i64 x.Num.B, .int .i64 x.Num.C, .int .i64 x.Num.D, .int .i64 x.Exp], 5⟩, ⟨some ⟨b1, 0, none⟩, 91, [.int .i64 y.Num.A, .int .i64 y.Num.B, .int .i64 y.Num.C, .int .i64 y.Num.D, .int .i64 y.Exp], 5⟩, ⟨some ⟨b2, 0, none⟩, 91, [.int .i64 0, .int .i64 0, .int .i64 0, .int .i64 0, .int .i64 0], 5⟩] [] := hS3
  refine rw_nil ?_
  refine cw_seq ?_
  obtain ⟨z, hz, hF1⟩ := bind_inv hF
  refine cw_block ?_
  refine cw_loop (fun k f w => ∃ (bad : Bool) (A : Int) (B1 : Int) (C : Int) (D : Int) (Exp : Int), FF f [(0, pt B 0), (4, pt (some ⟨b, 0, none⟩) 0), (5, pt (some ⟨b1, 0, none⟩) 0), (6, pt (some ⟨b2, 0, none⟩) 0)] ∧ ST w0 (bl [⟨B, 126, [.bool c.bad], 1⟩]) w [⟨B, 126, [.bool bad], 1⟩, ⟨some ⟨b, 0, none⟩, 91, [.int .i64 A, .int .i64 B1, .int .i64 C, .int .i64 D, .int .i64 Exp], 5⟩, ⟨some ⟨b1, 0, none⟩, 91, [.int .i64 y.Num.A, .int .i64 y.Num.B, .int .i64 y.Num.C, .int .i64 y.Num.D, .int .i64 y.Exp], 5⟩, ⟨some ⟨b2, 0, none⟩, 91, [.int .i64 0, .int .i64 0, .int .i64 0, .int .i64 0, .int .i64 0], 5⟩] [] ∧ whX (F_spec_l2C_add_l1 y) k (bad, A, B1, C, D, Exp) = some z) fuel ⟨c.bad, x.Num.A, x.Num.B, x.Num.C, x.Num.D, x.Exp, (FF.cons rfl (FF.cons rfl (FF.cons rfl (FF.cons rfl FF.nil)))), (hS3.sel [0, 1, 2, 3] rfl rfl), hz⟩ ?_
  rintro k_ f w ⟨bad, A, B1, C, D, Exp, hf, hS4, hL⟩
  obtain ⟨k_1, y1, rfl, hb, hL1⟩ := whX_go hL
  unfold F_spec_l2C_add_l1 at hb
  refine cw_seq ?_
  refine cw_seq ?_
  refine cw_region ?_
  refine sq 7 rfl rfl (Y_fieldAddr (B := some ⟨b, 0, none⟩) (i := 0) (s := 0) k_fd_91_1_4_3 k_sz_3_1 rfl (hf.get 4 1 rfl)) ?_
  refine sq 8 rfl rfl (Y_load1 (B := some ⟨b, 0, none⟩) (i := 4) (cs := [.int .i64 A, .int .i64 B1, .int .i64 C, .int .i64 D, .int .i64 Exp]) (v := .int .i64 Exp) k_sc_3 rfl rfl (hS4.cf (i := 1) rfl) rfl) ?_
  refine sq 9 rfl rfl (Y_fieldAddr (B := some ⟨b1, 0, none⟩) (i := 0) (s := 0) k_fd_91_1_4_3 k_sz_3_1 rfl (hf.get 5 2 rfl)) ?_
  refine sq 10 rfl rfl (Y_load1 (B := some ⟨b1, 0, none⟩) (i := 4) (cs := [.int .i64 y.Num.A, .int .i64 y.Num.B, .int .i64 y.Num.C, .int .i64 y.Num.D, .int .i64 y.Exp]) (v := .int .i64 y.Exp) k_sc_3 rfl rfl (hS4.cf (i := 2) rfl) rfl) ?_
  refine sq 11 rfl rfl (Y_lt (k := .i64) (a := Exp) (b := y.Exp) rfl rfl rfl) ?_
  refine rw_nil ?_
  refine cw_cond (b := (decide (Exp < y.Exp))) rfl (fun hb1 => ?_) (fun hb1 => ?_)
  · skip
    have hF2 := ct hb hb1
    refine cw_skip ?_
    refine cw_block ?_
    obtain ⟨r_1, hc, hF2⟩ := bind_inv hF2
    obtain ⟨⟨r_2, m1⟩, hc1, hF2⟩ := bind_inv hF2
    refine cw_mid (fun f w => FF f [(0, pt B 0), (4, pt (some ⟨b, 0, none⟩) 0), (5, pt (some ⟨b1, 0, none⟩) 0), (6, pt (some ⟨b2, 0, none⟩) 0)] ∧ ST w0 (bl [⟨B, 126, [.bool c.bad], 1⟩]) w [⟨B, 126, [.bool m1.bad], 1⟩, ⟨some ⟨b, 0, none⟩, 91, [.int .i64 r_2.A, .int .i64 r_2.B, .int .i64 r_2.C, .int .i64 r_2.D, .int .i64 (IntKind.i64.wrap (Exp + 1))], 5⟩, ⟨some ⟨b1, 0, none⟩, 91, [.int .i64 y.Num.A, .int .i64 y.Num.B, .int .i64 y.Num.C, .int .i64 y.Num.D, .int .i64 y.Exp], 5⟩, ⟨some ⟨b2, 0, none⟩, 91, [.int .i64 0, .int .i64 0, .int .i64 0, .int .i64 0, .int .i64 0], 5⟩] []) ?_ ?_
    · skip
      refine ra_start (ST.sel hS4 [2, 3] rfl rfl).fn (by kernel_rfl) ?_
      have hS8 := hS4.drew
      refine ra_q 0 12 (v := pt B 0) rfl rfl rfl (by kernel_rfl) (by kernel_rfl) (by kernel_rfl) (ST.sel hS8 [2, 3] rfl rfl) (fun w' hw' => (Y_move (v := pt B 0) rfl (hf.get 0 0 rfl))) ?_
      refine ra_q 1 13 (v := pt (some ⟨b, 0, none⟩) 0) rfl rfl rfl (by kernel_rfl) (by kernel_rfl) (by kernel_rfl) (ST.sel hS8 [2, 3] rfl rfl) (fun w' hw' => (Y_fieldAddr (B := some ⟨b, 0, none⟩) (i := 0) (s := 3) k_fd_91_0_0_89 k_sz_89_4 rfl (hf.get 4 1 rfl))) ?_
      refine ra_q 5 17 (v := pt (some ⟨b, 0, none⟩) 4) rfl rfl rfl (by kernel_rfl) (by kernel_rfl) (by kernel_rfl) (ST.sel hS8 [2, 3] rfl rfl) (fun w' hw' => (Y_fieldAddr (B := some ⟨b, 0, none⟩) (i := 0) (s := 0) k_fd_91_1_4_3 k_sz_3_1 rfl (hf.get 4 1 rfl))) ?_
      refine ra_all (rs := [2, 6]) (by kernel_rfl) rfl ?_
      refine ra_y 14 (i := 2) (v := .agg #[.int .i64 A, .int .i64 B1, .int .i64 C, .int .i64 D]) rfl rfl rfl (Y_loadA (B := some ⟨b, 0, none⟩) (i := 0) (cs := [.int .i64 A, .int .i64 B1, .int .i64 C, .int .i64 D, .int .i64 Exp]) (vs := [.int .i64 A, .int .i64 B1, .int .i64 C, .int .i64 D]) k_ag_89 k_sz_89_4 rfl rfl (hS8.cf (i := 1) rfl) rfl rfl) (ST.sel hS8 [2, 3] rfl rfl) ?_ ?_
      · skip
        refine ra_all (rs := [3, 6]) (by kernel_rfl) rfl ?_
        refine ra_c 15 (i := 3) rfl rfl rfl (Yc_func (g := 180) (vs := [.agg #[.int .i64 A, .int .i64 B1, .int .i64 C, .int .i64 D]]) k_call_180 rfl (mc rfl mn) (c_spec_l1Root (TRing.mk A B1 C D) _  (hS8.inn0 [] rfl) hc)) ?_ ?_
        · rintro _ w_3 ⟨rfl, hd⟩
          have hS9 := hS8.out00 hd
          have hS9 : ST w0 (bl [⟨B, 126, [.bool c.bad], 1⟩]) _ [⟨B, 126, [.bool bad], 1⟩, ⟨some ⟨b, 0, none⟩, 91, [.int .i64 A, .int .i64 B1, .int .i64 C, .int .i64 D, .int .i64 Exp], 5⟩, ⟨some ⟨b1, 0, none⟩, 91, [.int .i64 y.Num.A, .int .i64 y.Num.B, .int .i64 y.Num.C, .int .i64 y.Num.D, .int .i64 y.Exp], 5⟩, ⟨some ⟨b2, 0, none⟩, 91, [.int .i64 0, .int .i64 0, .int .i64 0, .int .i64 0, .int .i64 0], 5⟩] [] := hS9
          refine ⟨(ST.sel hS9 [2, 3] rfl rfl), ?_⟩
          refine ra_all (rs := [4, 6]) (by kernel_rfl) rfl ?_
          refine ra_c 16 (i := 4) rfl rfl rfl (Yc_func (g := 178) (vs := [pt B 0, .agg #[.int .i64 r_1.A, .int .i64 r_1.B, .int .i64 r_1.C, .int .i64 r_1.D]]) k_call_178 rfl (mc rfl (mc rfl mn)) (c_spec_l2C_ring (Tl2C.mk bad) r_1 B _  (hS9.inn [true, false, false, false] rfl [] rfl) hc1)) ?_ ?_
          · rintro _ w_4 ⟨rfl, hd1⟩
            have hS10 := hS9.out [true, false, false, false] rfl hd1
            have hS10 : ST w0 (bl [⟨B, 126, [.bool c.bad], 1⟩]) _ [⟨some ⟨b, 0, none⟩, 91, [.int .i64 A, .int .i64 B1, .int .i64 C, .int .i64 D, .int .i64 Exp], 5⟩, ⟨some ⟨b1, 0, none⟩, 91, [.int .i64 y.Num.A, .int .i64 y.Num.B, .int .i64 y.Num.C, .int .i64 y.Num.D, .int .i64 y.Exp], 5⟩, ⟨some ⟨b2, 0, none⟩, 91, [.int .i64 0, .int .i64 0, .int .i64 0, .int .i64 0, .int .i64 0], 5⟩, ⟨B, 126, [.bool m1.bad], 1⟩] [] := hS10
            refine ⟨(ST.sel hS10 [1, 2] rfl rfl), ?_⟩
            refine ra_all (rs := [6]) (by kernel_rfl) rfl ?_
            refine ra_y 18 (i := 6) (v := .int .i64 Exp) rfl rfl rfl (Y_load1 (B := some ⟨b, 0, none⟩) (i := 4) (cs := [.int .i64 A, .int .i64 B1, .int .i64 C, .int .i64 D, .int .i64 Exp]) (v := .int .i64 Exp) k_sc_3 rfl rfl (hS10.cf (i := 0) rfl) rfl) (ST.sel hS10 [1, 2] rfl rfl) ?_ ?_
            · skip
              refine ra_q 7 19 (v := .int .i64 (IntKind.i64.wrap (Exp + 1))) rfl rfl rfl (by kernel_rfl) (by kernel_rfl) (by kernel_rfl) (ST.sel hS10 [1, 2] rfl rfl) (fun w' hw' => (Y_add (k := .i64) (a := Exp) (b := 1) rfl rfl rfl)) ?_
              refine ra_q 8 20 (v := .agg #[.int .i64 r_2.A, .int .i64 r_2.B, .int .i64 r_2.C, .int .i64 r_2.D, .int .i64 (IntKind.i64.wrap (Exp + 1))]) rfl rfl rfl (by kernel_rfl) (by kernel_rfl) (by kernel_rfl) (ST.sel hS10 [1, 2] rfl rfl) (fun w' hw' => (Y_buildS (zs := [.int .i64 0, .int .i64 0, .int .i64 0, .int .i64 0, .int .i64 0]) (vs := [(0, .agg #[.int .i64 r_2.A, .int .i64 r_2.B, .int .i64 r_2.C, .int .i64 r_2.D]), (1, .int .i64 (IntKind.i64.wrap (Exp + 1)))]) (cs := [.int .i64 r_2.A, .int .i64 r_2.B, .int .i64 r_2.C, .int .i64 r_2.D, .int .i64 (IntKind.i64.wrap (Exp + 1))]) k_pl_91 k_zero_91 rfl (mpc rfl (mpc rfl mpn)) rfl)) ?_
              refine ra_all (rs := [9]) (by kernel_rfl) rfl ?_
              refine ra_s0 (i := 9) rfl rfl rfl (Ys_store (i := 0) (s := 5) (B := some ⟨b, 0, none⟩) (T' := 91) (v := .agg #[.int .i64 r_2.A, .int .i64 r_2.B, .int .i64 r_2.C, .int .i64 r_2.D, .int .i64 (IntKind.i64.wrap (Exp + 1))]) (vs := [.int .i64 r_2.A, .int .i64 r_2.B, .int .i64 r_2.C, .int .i64 r_2.D, .int .i64 (IntKind.i64.wrap (Exp + 1))]) (k := 0) (cs' := [.int .i64 r_2.A, .int .i64 r_2.B, .int .i64 r_2.C, .int .i64 r_2.D, .int .i64 (IntKind.i64.wrap (Exp + 1))]) hS10 k_sz_91_5 rfl (hf.get 4 1 rfl) rfl rfl rfl rfl rfl (Nat.le_of_ble_eq_true rfl) rfl rfl) ?_ ?_
              · rintro _ w_5 ⟨rfl, hS11⟩
                have hS11 : ST w0 (bl [⟨B, 126, [.bool c.bad], 1⟩]) _ [⟨some ⟨b, 0, none⟩, 91, [.int .i64 r_2.A, .int .i64 r_2.B, .int .i64 r_2.C, .int .i64 r_2.D, .int .i64 (IntKind.i64.wrap (Exp + 1))], 5⟩, ⟨some ⟨b1, 0, none⟩, 91, [.int .i64 y.Num.A, .int .i64 y.Num.B, .int .i64 y.Num.C, .int .i64 y.Num.D, .int .i64 y.Exp], 5⟩, ⟨some ⟨b2, 0, none⟩, 91, [.int .i64 0, .int .i64 0, .int .i64 0, .int .i64 0, .int .i64 0], 5⟩, ⟨B, 126, [.bool m1.bad], 1⟩] [] := hS11
                refine ⟨(ST.sel hS11 [1, 2] rfl rfl), ?_⟩
                refine ra_done (by kernel_rfl) ?_
                exact ⟨(FF.cons (hf.get 0 0 rfl) (FF.cons (hf.get 4 1 rfl) (FF.cons (hf.get 5 2 rfl) (FF.cons (hf.get 6 3 rfl) FF.nil)))), (hS11.sel [3, 0, 1, 2] rfl rfl)⟩
              exact allR_nil
            exact allR_nil
          refine ra_y 18 (i := 6) (v := .int .i64 Exp) rfl rfl rfl (Y_load1 (B := some ⟨b, 0, none⟩) (i := 4) (cs := [.int .i64 A, .int .i64 B1, .int .i64 C, .int .i64 D, .int .i64 Exp]) (v := .int .i64 Exp) k_sc_3 rfl rfl (hS9.cf (i := 1) rfl) rfl) (ST.sel hS9 [2, 3] rfl rfl) ?_ ?_
          · skip
            refine ra_q 7 19 (v := .int .i64 (IntKind.i64.wrap (Exp + 1))) rfl rfl rfl (by kernel_rfl) (by kernel_rfl) (by kernel_rfl) (ST.sel hS9 [2, 3] rfl rfl) (fun w' hw' => (Y_add (k := .i64) (a := Exp) (b := 1) rfl rfl rfl)) ?_
            refine ra_all (rs := [4]) (by kernel_rfl) rfl ?_
            refine ra_c 16 (i := 4) rfl rfl rfl (Yc_func (g := 178) (vs := [pt B 0, .agg #[.int .i64 r_1.A, .int .i64 r_1.B, .int .i64 r_1.C, .int .i64 r_1.D]]) k_call_178 rfl (mc rfl (mc rfl mn)) (c_spec_l2C_ring (Tl2C.mk bad) r_1 B _  (hS9.inn [true, false, false, false] rfl [] rfl) hc1)) ?_ ?_
            · rintro _ w_6 ⟨rfl, hd2⟩
              have hS12 := hS9.out [true, false, false, false] rfl hd2
              have hS12 : ST w0 (bl [⟨B, 126, [.bool c.bad], 1⟩]) _ [⟨some ⟨b, 0, none⟩, 91, [.int .i64 A, .int .i64 B1, .int .i64 C, .int .i64 D, .int .i64 Exp], 5⟩, ⟨some ⟨b1, 0, none⟩, 91, [.int .i64 y.Num.A, .int .i64 y.Num.B, .int .i64 y.Num.C, .int .i64 y.Num.D, .int .i64 y.Exp], 5⟩, ⟨some ⟨b2, 0, none⟩, 91, [.int .i64 0, .int .i64 0, .int .i64 0, .int .i64 0, .int .i64 0], 5⟩, ⟨B, 126, [.bool m1.bad], 1⟩] [] := hS12
              refine ⟨(ST.sel hS12 [1, 2] rfl rfl), ?_⟩
              refine ra_q 8 20 (v := .agg #[.int .i64 r_2.A, .int .i64 r_2.B, .int .i64 r_2.C, .int .i64 r_2.D, .int .i64 (IntKind.i64.wrap (Exp + 1))]) rfl rfl rfl (by kernel_rfl) (by kernel_rfl) (by kernel_rfl) (ST.sel hS12 [1, 2] rfl rfl) (fun w' hw' => (Y_buildS (zs := [.int .i64 0, .int .i64 0, .int .i64 0, .int .i64 0, .int .i64 0]) (vs := [(0, .agg #[.int .i64 r_2.A, .int .i64 r_2.B, .int .i64 r_2.C, .int .i64 r_2.D]), (1, .int .i64 (IntKind.i64.wrap (Exp + 1)))]) (cs := [.int .i64 r_2.A, .int .i64 r_2.B, .int .i64 r_2.C, .int .i64 r_2.D, .int .i64 (IntKind.i64.wrap (Exp + 1))]) k_pl_91 k_zero_91 rfl (mpc rfl (mpc rfl mpn)) rfl)) ?_
              refine ra_all (rs := [9]) (by kernel_rfl) rfl ?_
              refine ra_s0 (i := 9) rfl rfl rfl (Ys_store (i := 0) (s := 5) (B := some ⟨b, 0, none⟩) (T' := 91) (v := .agg #[.int .i64 r_2.A, .int .i64 r_2.B, .int .i64 r_2.C, .int .i64 r_2.D, .int .i64 (IntKind.i64.wrap (Exp + 1))]) (vs := [.int .i64 r_2.A, .int .i64 r_2.B, .int .i64 r_2.C, .int .i64 r_2.D, .int .i64 (IntKind.i64.wrap (Exp + 1))]) (k := 0) (cs' := [.int .i64 r_2.A, .int .i64 r_2.B, .int .i64 r_2.C, .int .i64 r_2.D, .int .i64 (IntKind.i64.wrap (Exp + 1))]) hS12 k_sz_91_5 rfl (hf.get 4 1 rfl) rfl rfl rfl rfl rfl (Nat.le_of_ble_eq_true rfl) rfl rfl) ?_ ?_
              · rintro _ w_7 ⟨rfl, hS13⟩
                have hS13 : ST w0 (bl [⟨B, 126, [.bool c.bad], 1⟩]) _ [⟨some ⟨b, 0, none⟩, 91, [.int .i64 r_2.A, .int .i64 r_2.B, .int .i64 r_2.C, .int .i64 r_2.D, .int .i64 (IntKind.i64.wrap (Exp + 1))], 5⟩, ⟨some ⟨b1, 0, none⟩, 91, [.int .i64 y.Num.A, .int .i64 y.Num.B, .int .i64 y.Num.C, .int .i64 y.Num.D, .int .i64 y.Exp], 5⟩, ⟨some ⟨b2, 0, none⟩, 91, [.int .i64 0, .int .i64 0, .int .i64 0, .int .i64 0, .int .i64 0], 5⟩, ⟨B, 126, [.bool m1.bad], 1⟩] [] := hS13
                refine ⟨(ST.sel hS13 [1, 2] rfl rfl), ?_⟩
                refine ra_done (by kernel_rfl) ?_
                exact ⟨(FF.cons (hf.get 0 0 rfl) (FF.cons (hf.get 4 1 rfl) (FF.cons (hf.get 5 2 rfl) (FF.cons (hf.get 6 3 rfl) FF.nil)))), (hS13.sel [3, 0, 1, 2] rfl rfl)⟩
              exact allR_nil
            exact allR_nil
          exact allR_nil
        refine ra_y 18 (i := 6) (v := .int .i64 Exp) rfl rfl rfl (Y_load1 (B := some ⟨b, 0, none⟩) (i := 4) (cs := [.int .i64 A, .int .i64 B1, .int .i64 C, .int .i64 D, .int .i64 Exp]) (v := .int .i64 Exp) k_sc_3 rfl rfl (hS8.cf (i := 1) rfl) rfl) (ST.sel hS8 [2, 3] rfl rfl) ?_ ?_
        · skip
          refine ra_q 7 19 (v := .int .i64 (IntKind.i64.wrap (Exp + 1))) rfl rfl rfl (by kernel_rfl) (by kernel_rfl) (by kernel_rfl) (ST.sel hS8 [2, 3] rfl rfl) (fun w' hw' => (Y_add (k := .i64) (a := Exp) (b := 1) rfl rfl rfl)) ?_
          refine ra_all (rs := [3]) (by kernel_rfl) rfl ?_
          refine ra_c 15 (i := 3) rfl rfl rfl (Yc_func (g := 180) (vs := [.agg #[.int .i64 A, .int .i64 B1, .int .i64 C, .int .i64 D]]) k_call_180 rfl (mc rfl mn) (c_spec_l1Root (TRing.mk A B1 C D) _  (hS8.inn0 [] rfl) hc)) ?_ ?_
          · rintro _ w_8 ⟨rfl, hd3⟩
            have hS14 := hS8.out00 hd3
            have hS14 : ST w0 (bl [⟨B, 126, [.bool c.bad], 1⟩]) _ [⟨B, 126, [.bool bad], 1⟩, ⟨some ⟨b, 0, none⟩, 91, [.int .i64 A, .int .i64 B1, .int .i64 C, .int .i64 D, .int .i64 Exp], 5⟩, ⟨some ⟨b1, 0, none⟩, 91, [.int .i64 y.Num.A, .int .i64 y.Num.B, .int .i64 y.Num.C, .int .i64 y.Num.D, .int .i64 y.Exp], 5⟩, ⟨some ⟨b2, 0, none⟩, 91, [.int .i64 0, .int .i64 0, .int .i64 0, .int .i64 0, .int .i64 0], 5⟩] [] := hS14
            refine ⟨(ST.sel hS14 [2, 3] rfl rfl), ?_⟩
            refine ra_all (rs := [4]) (by kernel_rfl) rfl ?_
            refine ra_c 16 (i := 4) rfl rfl rfl (Yc_func (g := 178) (vs := [pt B 0, .agg #[.int .i64 r_1.A, .int .i64 r_1.B, .int .i64 r_1.C, .int .i64 r_1.D]]) k_call_178 rfl (mc rfl (mc rfl mn)) (c_spec_l2C_ring (Tl2C.mk bad) r_1 B _  (hS14.inn [true, false, false, false] rfl [] rfl) hc1)) ?_ ?_
            · rintro _ w_9 ⟨rfl, hd4⟩
              have hS15 := hS14.out [true, false, false, false] rfl hd4
              have hS15 : ST w0 (bl [⟨B, 126, [.bool c.bad], 1⟩]) _ [⟨some ⟨b, 0, none⟩, 91, [.int .i64 A, .int .i64 B1, .int .i64 C, .int .i64 D, .int .i64 Exp], 5⟩, ⟨some ⟨b1, 0, none⟩, 91, [.int .i64 y.Num.A, .int .i64 y.Num.B, .int .i64 y.Num.C, .int .i64 y.Num.D, .int .i64 y.Exp], 5⟩, ⟨some ⟨b2, 0, none⟩, 91, [.int .i64 0, .int .i64 0, .int .i64 0, .int .i64 0, .int .i64 0], 5⟩, ⟨B, 126, [.bool m1.bad], 1⟩] [] := hS15
              refine ⟨(ST.sel hS15 [1, 2] rfl rfl), ?_⟩
              refine ra_q 8 20 (v := .agg #[.int .i64 r_2.A, .int .i64 r_2.B, .int .i64 r_2.C, .int .i64 r_2.D, .int .i64 (IntKind.i64.wrap (Exp + 1))]) rfl rfl rfl (by kernel_rfl) (by kernel_rfl) (by kernel_rfl) (ST.sel hS15 [1, 2] rfl rfl) (fun w' hw' => (Y_buildS (zs := [.int .i64 0, .int .i64 0, .int .i64 0, .int .i64 0, .int .i64 0]) (vs := [(0, .agg #[.int .i64 r_2.A, .int .i64 r_2.B, .int .i64 r_2.C, .int .i64 r_2.D]), (1, .int .i64 (IntKind.i64.wrap (Exp + 1)))]) (cs := [.int .i64 r_2.A, .int .i64 r_2.B, .int .i64 r_2.C, .int .i64 r_2.D, .int .i64 (IntKind.i64.wrap (Exp + 1))]) k_pl_91 k_zero_91 rfl (mpc rfl (mpc rfl mpn)) rfl)) ?_
              refine ra_all (rs := [9]) (by kernel_rfl) rfl ?_
              refine ra_s0 (i := 9) rfl rfl rfl (Ys_store (i := 0) (s := 5) (B := some ⟨b, 0, none⟩) (T' := 91) (v := .agg #[.int .i64 r_2.A, .int .i64 r_2.B, .int .i64 r_2.C, .int .i64 r_2.D, .int .i64 (IntKind.i64.wrap (Exp + 1))]) (vs := [.int .i64 r_2.A, .int .i64 r_2.B, .int .i64 r_2.C, .int .i64 r_2.D, .int .i64 (IntKind.i64.wrap (Exp + 1))]) (k := 0) (cs' := [.int .i64 r_2.A, .int .i64 r_2.B, .int .i64 r_2.C, .int .i64 r_2.D, .int .i64 (IntKind.i64.wrap (Exp + 1))]) hS15 k_sz_91_5 rfl (hf.get 4 1 rfl) rfl rfl rfl rfl rfl (Nat.le_of_ble_eq_true rfl) rfl rfl) ?_ ?_
              · rintro _ w_10 ⟨rfl, hS16⟩
                have hS16 : ST w0 (bl [⟨B, 126, [.bool c.bad], 1⟩]) _ [⟨some ⟨b, 0, none⟩, 91, [.int .i64 r_2.A, .int .i64 r_2.B, .int .i64 r_2.C, .int .i64 r_2.D, .int .i64 (IntKind.i64.wrap (Exp + 1))], 5⟩, ⟨some ⟨b1, 0, none⟩, 91, [.int .i64 y.Num.A, .int .i64 y.Num.B, .int .i64 y.Num.C, .int .i64 y.Num.D, .int .i64 y.Exp], 5⟩, ⟨some ⟨b2, 0, none⟩, 91, [.int .i64 0, .int .i64 0, .int .i64 0, .int .i64 0, .int .i64 0], 5⟩, ⟨B, 126, [.bool m1.bad], 1⟩] [] := hS16
                refine ⟨(ST.sel hS16 [1, 2] rfl rfl), ?_⟩
                refine ra_done (by kernel_rfl) ?_
                exact ⟨(FF.cons (hf.get 0 0 rfl) (FF.cons (hf.get 4 1 rfl) (FF.cons (hf.get 5 2 rfl) (FF.cons (hf.get 6 3 rfl) FF.nil)))), (hS16.sel [3, 0, 1, 2] rfl rfl)⟩
              exact allR_nil
            exact allR_nil
          exact allR_nil
        exact allR_nil
      refine ra_y 18 (i := 6) (v := .int .i64 Exp) rfl rfl rfl (Y_load1 (B := some ⟨b, 0, none⟩) (i := 4) (cs := [.int .i64 A, .int .i64 B1, .int .i64 C, .int .i64 D, .int .i64 Exp]) (v := .int .i64 Exp) k_sc_3 rfl rfl (hS8.cf (i := 1) rfl) rfl) (ST.sel hS8 [2, 3] rfl rfl) ?_ ?_
      · skip
        refine ra_q 7 19 (v := .int .i64 (IntKind.i64.wrap (Exp + 1))) rfl rfl rfl (by kernel_rfl) (by kernel_rfl) (by kernel_rfl) (ST.sel hS8 [2, 3] rfl rfl) (fun w' hw' => (Y_add (k := .i64) (a := Exp) (b := 1) rfl rfl rfl)) ?_
        refine ra_all (rs := [2]) (by kernel_rfl) rfl ?_
        refine ra_y 14 (i := 2) (v := .agg #[.int .i64 A, .int .i64 B1, .int .i64 C, .int .i64 D]) rfl rfl rfl (Y_loadA (B := some ⟨b, 0, none⟩) (i := 0) (cs := [.int .i64 A, .int .i64 B1, .int .i64 C, .int .i64 D, .int .i64 Exp]) (vs := [.int .i64 A, .int .i64 B1, .int .i64 C, .int .i64 D]) k_ag_89 k_sz_89_4 rfl rfl (hS8.cf (i := 1) rfl) rfl rfl) (ST.sel hS8 [2, 3] rfl rfl) ?_ ?_
        · skip
          refine ra_all (rs := [3]) (by kernel_rfl) rfl ?_
          refine ra_c 15 (i := 3) rfl rfl rfl (Yc_func (g := 180) (vs := [.agg #[.int .i64 A, .int .i64 B1, .int .i64 C, .int .i64 D]]) k_call_180 rfl (mc rfl mn) (c_spec_l1Root (TRing.mk A B1 C D) _  (hS8.inn0 [] rfl) hc)) ?_ ?_
          · rintro _ w_11 ⟨rfl, hd5⟩
            have hS17 := hS8.out00 hd5
            have hS17 : ST w0 (bl [⟨B, 126, [.bool c.bad], 1⟩]) _ [⟨B, 126, [.bool bad], 1⟩, ⟨some ⟨b, 0, none⟩, 91, [.int .i64 A, .int .i64 B1, .int .i64 C, .int .i64 D, .int .i64 Exp], 5⟩, ⟨some ⟨b1, 0, none⟩, 91, [.int .i64 y.Num.A, .int .i64 y.Num.B, .int .i64 y.Num.C, .int .i64 y.Num.D, .int .i64 y.Exp], 5⟩, ⟨some ⟨b2, 0, none⟩, 91, [.int .i64 0, .int .i64 0, .int .i64 0, .int .i64 0, .int .i64 0], 5⟩] [] := hS17
            refine ⟨(ST.sel hS17 [2, 3] rfl rfl), ?_⟩
            refine ra_all (rs := [4]) (by kernel_rfl) rfl ?_
            refine ra_c 16 (i := 4) rfl rfl rfl (Yc_func (g := 178) (vs := [pt B 0, .agg #[.int .i64 r_1.A, .int .i64 r_1.B, .int .i64 r_1.C, .int .i64 r_1.D]]) k_call_178 rfl (mc rfl (mc rfl mn)) (c_spec_l2C_ring (Tl2C.mk bad) r_1 B _  (hS17.inn [true, false, false, false] rfl [] rfl) hc1)) ?_ ?_
            · rintro _ w_12 ⟨rfl, hd6⟩
              have hS18 := hS17.out [true, false, false, false] rfl hd6
              have hS18 : ST w0 (bl [⟨B, 126, [.bool c.bad], 1⟩]) _ [⟨some ⟨b, 0, none⟩, 91, [.int .i64 A, .int .i64 B1, .int .i64 C, .int .i64 D, .int .i64 Exp], 5⟩, ⟨some ⟨b1, 0, none⟩, 91, [.int .i64 y.Num.A, .int .i64 y.Num.B, .int .i64 y.Num.C, .int .i64 y.Num.D, .int .i64 y.Exp], 5⟩, ⟨some ⟨b2, 0, none⟩, 91, [.int .i64 0, .int .i64 0, .int .i64 0, .int .i64 0, .int .i64 0], 5⟩, ⟨B, 126, [.bool m1.bad], 1⟩] [] := hS18
              refine ⟨(ST.sel hS18 [1, 2] rfl rfl), ?_⟩
              refine ra_q 8 20 (v := .agg #[.int .i64 r_2.A, .int .i64 r_2.B, .int .i64 r_2.C, .int .i64 r_2.D, .int .i64 (IntKind.i64.wrap (Exp + 1))]) rfl rfl rfl (by kernel_rfl) (by kernel_rfl) (by kernel_rfl) (ST.sel hS18 [1, 2] rfl rfl) (fun w' hw' => (Y_buildS (zs := [.int .i64 0, .int .i64 0, .int .i64 0, .int .i64 0, .int .i64 0]) (vs := [(0, .agg #[.int .i64 r_2.A, .int .i64 r_2.B, .int .i64 r_2.C, .int .i64 r_2.D]), (1, .int .i64 (IntKind.i64.wrap (Exp + 1)))]) (cs := [.int .i64 r_2.A, .int .i64 r_2.B, .int .i64 r_2.C, .int .i64 r_2.D, .int .i64 (IntKind.i64.wrap (Exp + 1))]) k_pl_91 k_zero_91 rfl (mpc rfl (mpc rfl mpn)) rfl)) ?_
              refine ra_all (rs := [9]) (by kernel_rfl) rfl ?_
              refine ra_s0 (i := 9) rfl rfl rfl (Ys_store (i := 0) (s := 5) (B := some ⟨b, 0, none⟩) (T' := 91) (v := .agg #[.int .i64 r_2.A, .int .i64 r_2.B, .int .i64 r_2.C, .int .i64 r_2.D, .int .i64 (IntKind.i64.wrap (Exp + 1))]) (vs := [.int .i64 r_2.A, .int .i64 r_2.B, .int .i64 r_2.C, .int .i64 r_2.D, .int .i64 (IntKind.i64.wrap (Exp + 1))]) (k := 0) (cs' := [.int .i64 r_2.A, .int .i64 r_2.B, .int .i64 r_2.C, .int .i64 r_2.D, .int .i64 (IntKind.i64.wrap (Exp + 1))]) hS18 k_sz_91_5 rfl (hf.get 4 1 rfl) rfl rfl rfl rfl rfl (Nat.le_of_ble_eq_true rfl) rfl rfl) ?_ ?_
              · rintro _ w_13 ⟨rfl, hS19⟩
                have hS19 : ST w0 (bl [⟨B, 126, [.bool c.bad], 1⟩]) _ [⟨some ⟨b, 0, none⟩, 91, [.int .i64 r_2.A, .int .i64 r_2.B, .int .i64 r_2.C, .int .i64 r_2.D, .int .i64 (IntKind.i64.wrap (Exp + 1))], 5⟩, ⟨some ⟨b1, 0, none⟩, 91, [.int .i64 y.Num.A, .int .i64 y.Num.B, .int .i64 y.Num.C, .int .i64 y.Num.D, .int .i64 y.Exp], 5⟩, ⟨some ⟨b2, 0, none⟩, 91, [.int .i64 0, .int .i64 0, .int .i64 0, .int .i64 0, .int .i64 0], 5⟩, ⟨B, 126, [.bool m1.bad], 1⟩] [] := hS19
                refine ⟨(ST.sel hS19 [1, 2] rfl rfl), ?_⟩
                refine ra_done (by kernel_rfl) ?_
                exact ⟨(FF.cons (hf.get 0 0 rfl) (FF.cons (hf.get 4 1 rfl) (FF.cons (hf.get 5 2 rfl) (FF.cons (hf.get 6 3 rfl) FF.nil)))), (hS19.sel [3, 0, 1, 2] rfl rfl)⟩
              exact allR_nil
            exact allR_nil
          exact allR_nil
        exact allR_nil
      exact allR_nil
    rintro f w ⟨hf1, hS7⟩
    obtain rfl := some_inj hF2
    exact ⟨k_1, Nat.lt_succ_self _, m1.bad, r_2.A, r_2.B, r_2.C, r_2.D, (IntKind.i64.wrap (Exp + 1)), (FF.cons (hf1.get 0 0 rfl) (FF.cons (hf1.get 4 1 rfl) (FF.cons (hf1.get 5 2 rfl) (FF.cons (hf1.get 6 3 rfl) FF.nil)))), (hS7.sel [0, 1, 2, 3] rfl rfl), hL1⟩
  · skip
    have hF3 := cf' hb hb1
    refine cw_exit rfl ?_
    obtain rfl := some_inj hF3
    obtain rfl := some_inj hL1
    refine cw_seq ?_
    obtain ⟨z1, hz1, hF4⟩ := bind_inv hF1
    refine cw_block ?_
    refine cw_loop (fun k f w => ∃ (bad1 : Bool) (A1 : Int) (B2 : Int) (C1 : Int) (D1 : Int) (Exp1 : Int), FF f [(0, pt B 0), (4, pt (some ⟨b, 0, none⟩) 0), (5, pt (some ⟨b1, 0, none⟩) 0), (6, pt (some ⟨b2, 0, none⟩) 0)] ∧ ST w0 (bl [⟨B, 126, [.bool c.bad], 1⟩]) w [⟨B, 126, [.bool bad1], 1⟩, ⟨some ⟨b, 0, none⟩, 91, [.int .i64 A, .int .i64 B1, .int .i64 C, .int .i64 D, .int .i64 Exp], 5⟩, ⟨some ⟨b1, 0, none⟩, 91, [.int .i64 A1, .int .i64 B2, .int .i64 C1, .int .i64 D1, .int .i64 Exp1], 5⟩, ⟨some ⟨b2, 0, none⟩, 91, [.int .i64 0, .int .i64 0, .int .i64 0, .int .i64 0, .int .i64 0], 5⟩] [] ∧ whX (F_spec_l2C_add_l2 Exp bad A C D) k (bad1, A1, B2, C1, D1, Exp1) = some z1) fuel ⟨bad, y.Num.A, y.Num.B, y.Num.C, y.Num.D, y.Exp, (FF.cons (hf.get 0 0 rfl) (FF.cons (hf.get 4 1 rfl) (FF.cons (hf.get 5 2 rfl) (FF.cons (hf.get 6 3 rfl) FF.nil)))), (hS4.sel [0, 1, 2, 3] rfl rfl), hz1⟩ ?_
    rintro k_2 f w ⟨bad1, A1, B2, C1, D1, Exp1, hf2, hS20, hL2⟩
    obtain ⟨k_3, y2, rfl, hb2, hL3⟩ := whX_go hL2
    unfold F_spec_l2C_add_l2 at hb2
    refine cw_seq ?_
    refine cw_seq ?_
    refine cw_region ?_
    refine sq 21 rfl rfl (Y_fieldAddr (B := some ⟨b1, 0, none⟩) (i := 0) (s := 0) k_fd_91_1_4_3 k_sz_3_1 rfl (hf2.get 5 2 rfl)) ?_
    refine sq 22 rfl rfl (Y_load1 (B := some ⟨b1, 0, none⟩) (i := 4) (cs := [.int .i64 A1, .int .i64 B2, .int .i64 C1, .int .i64 D1, .int .i64 Exp1]) (v := .int .i64 Exp1) k_sc_3 rfl rfl (hS20.cf (i := 2) rfl) rfl) ?_
    refine sq 23 rfl rfl (Y_fieldAddr (B := some ⟨b, 0, none⟩) (i := 0) (s := 0) k_fd_91_1_4_3 k_sz_3_1 rfl (hf2.get 4 1 rfl)) ?_
    refine sq 24 rfl rfl (Y_load1 (B := some ⟨b, 0, none⟩) (i := 4) (cs := [.int .i64 A, .int .i64 B1, .int .i64 C, .int .i64 D, .int .i64 Exp]) (v := .int .i64 Exp) k_sc_3 rfl rfl (hS20.cf (i := 1) rfl) rfl) ?_
    refine sq 25 rfl rfl (Y_lt (k := .i64) (a := Exp1) (b := Exp) rfl rfl rfl) ?_
    refine rw_nil ?_
    refine cw_cond (b := (decide (Exp1 < Exp))) rfl (fun hb3 => ?_) (fun hb3 => ?_)
    · skip
      have hF5 := ct hb2 hb3
      refine cw_skip ?_
      refine cw_block ?_
      obtain ⟨r_3, hc2, hF5⟩ := bind_inv hF5
      obtain ⟨⟨r_4, m2⟩, hc3, hF5⟩ := bind_inv hF5
      refine cw_mid (fun f w => FF f [(0, pt B 0), (4, pt (some ⟨b, 0, none⟩) 0), (5, pt (some ⟨b1, 0, none⟩) 0), (6, pt (some ⟨b2, 0, none⟩) 0)] ∧ ST w0 (bl [⟨B, 126, [.bool c.bad], 1⟩]) w [⟨B, 126, [.bool m2.bad], 1⟩, ⟨some ⟨b, 0, none⟩, 91, [.int .i64 A, .int .i64 B1, .int .i64 C, .int .i64 D, .int .i64 Exp], 5⟩, ⟨some ⟨b1, 0, none⟩, 91, [.int .i64 r_4.A, .int .i64 r_4.B, .int .i64 r_4.C, .int .i64 r_4.D, .int .i64 (IntKind.i64.wrap (Exp1 + 1))], 5⟩, ⟨some ⟨b2, 0, none⟩, 91, [.int .i64 0, .int .i64 0, .int .i64 0, .int .i64 0, .int .i64 0], 5⟩] []) ?_ ?_
      · skip
        refine ra_start (ST.sel hS20 [1, 3] rfl rfl).fn (by kernel_rfl) ?_
        have hS24 := hS20.drew
        refine ra_q 0 26 (v := pt B 0) rfl rfl rfl (by kernel_rfl) (by kernel_rfl) (by kernel_rfl) (ST.sel hS24 [1, 3] rfl rfl) (fun w' hw' => (Y_move (v := pt B 0) rfl (hf2.get 0 0 rfl))) ?_
        refine ra_q 1 27 (v := pt (some ⟨b1, 0, none⟩) 0) rfl rfl rfl (by kernel_rfl) (by kernel_rfl) (by kernel_rfl) (ST.sel hS24 [1, 3] rfl rfl) (fun w' hw' => (Y_fieldAddr (B := some ⟨b1, 0, none⟩) (i := 0) (s := 3) k_fd_91_0_0_89 k_sz_89_4 rfl (hf2.get 5 2 rfl))) ?_
        refine ra_q 5 31 (v := pt (some ⟨b1, 0, none⟩) 4) rfl rfl rfl (by kernel_rfl) (by kernel_rfl) (by kernel_rfl) (ST.sel hS24 [1, 3] rfl rfl) (fun w' hw' => (Y_fieldAddr (B := some ⟨b1, 0, none⟩) (i := 0) (s := 0) k_fd_91_1_4_3 k_sz_3_1 rfl (hf2.get 5 2 rfl))) ?_
        refine ra_all (rs := [2, 6]) (by kernel_rfl) rfl ?_
        refine ra_y 28 (i := 2) (v := .agg #[.int .i64 A1, .int .i64 B2, .int .i64 C1, .int .i64 D1]) rfl rfl rfl (Y_loadA (B := some ⟨b1, 0, none⟩) (i := 0) (cs := [.int .i64 A1, .int .i64 B2, .int .i64 C1, .int .i64 D1, .int .i64 Exp1]) (vs := [.int .i64 A1, .int .i64 B2, .int .i64 C1, .int .i64 D1]) k_ag_89 k_sz_89_4 rfl rfl (hS24.cf (i := 2) rfl) rfl rfl) (ST.sel hS24 [1, 3] rfl rfl) ?_ ?_
        · skip
          refine ra_all (rs := [3, 6]) (by kernel_rfl) rfl ?_
          refine ra_c 29 (i := 3) rfl rfl rfl (Yc_func (g := 180) (vs := [.agg #[.int .i64 A1, .int .i64 B2, .int .i64 C1, .int .i64 D1]]) k_call_180 rfl (mc rfl mn) (c_spec_l1Root (TRing.mk A1 B2 C1 D1) _  (hS24.inn0 [] rfl) hc2)) ?_ ?_
          · rintro _ w_14 ⟨rfl, hd7⟩
            have hS25 := hS24.out00 hd7
            have hS25 : ST w0 (bl [⟨B, 126, [.bool c.bad], 1⟩]) _ [⟨B, 126, [.bool bad1], 1⟩, ⟨some ⟨b, 0, none⟩, 91, [.int .i64 A, .int .i64 B1, .int .i64 C, .int .i64 D, .int .i64 Exp], 5⟩, ⟨some ⟨b1, 0, none⟩, 91, [.int .i64 A1, .int .i64 B2, .int .i64 C1, .int .i64 D1, .int .i64 Exp1], 5⟩, ⟨some ⟨b2, 0, none⟩, 91, [.int .i64 0, .int .i64 0, .int .i64 0, .int .i64 0, .int .i64 0], 5⟩] [] := hS25
            refine ⟨(ST.sel hS25 [1, 3] rfl rfl), ?_⟩
            refine ra_all (rs := [4, 6]) (by kernel_rfl) rfl ?_
            refine ra_c 30 (i := 4) rfl rfl rfl (Yc_func (g := 178) (vs := [pt B 0, .agg #[.int .i64 r_3.A, .int .i64 r_3.B, .int .i64 r_3.C, .int .i64 r_3.D]]) k_call_178 rfl (mc rfl (mc rfl mn)) (c_spec_l2C_ring (Tl2C.mk bad1) r_3 B _  (hS25.inn [true, false, false, false] rfl [] rfl) hc3)) ?_ ?_
            · rintro _ w_15 ⟨rfl, hd8⟩
              have hS26 := hS25.out [true, false, false, false] rfl hd8
              have hS26 : ST w0 (bl [⟨B, 126, [.bool c.bad], 1⟩]) _ [⟨some ⟨b, 0, none⟩, 91, [.int .i64 A, .int .i64 B1, .int .i64 C, .int .i64 D, .int .i64 Exp], 5⟩, ⟨some ⟨b1, 0, none⟩, 91, [.int .i64 A1, .int .i64 B2, .int .i64 C1, .int .i64 D1, .int .i64 Exp1], 5⟩, ⟨some ⟨b2, 0, none⟩, 91, [.int .i64 0, .int .i64 0, .int .i64 0, .int .i64 0, .int .i64 0], 5⟩, ⟨B, 126, [.bool m2.bad], 1⟩] [] := hS26
              refine ⟨(ST.sel hS26 [0, 2] rfl rfl), ?_⟩
              refine ra_all (rs := [6]) (by kernel_rfl) rfl ?_
              refine ra_y 32 (i := 6) (v := .int .i64 Exp1) rfl rfl rfl (Y_load1 (B := some ⟨b1, 0, none⟩) (i := 4) (cs := [.int .i64 A1, .int .i64 B2, .int .i64 C1, .int .i64 D1, .int .i64 Exp1]) (v := .int .i64 Exp1) k_sc_3 rfl rfl (hS26.cf (i := 1) rfl) rfl) (ST.sel hS26 [0, 2] rfl rfl) ?_ ?_
              · skip
                refine ra_q 7 33 (v := .int .i64 (IntKind.i64.wrap (Exp1 + 1))) rfl rfl rfl (by kernel_rfl) (by kernel_rfl) (by kernel_rfl) (ST.sel hS26 [0, 2] rfl rfl) (fun w' hw' => (Y_add (k := .i64) (a := Exp1) (b := 1) rfl rfl rfl)) ?_
                refine ra_q 8 34 (v := .agg #[.int .i64 r_4.A, .int .i64 r_4.B, .int .i64 r_4.C, .int .i64 r_4.D, .int .i64 (IntKind.i64.wrap (Exp1 + 1))]) rfl rfl rfl (by kernel_rfl) (by kernel_rfl) (by kernel_rfl) (ST.sel hS26 [0, 2] rfl rfl) (fun w' hw' => (Y_buildS (zs := [.int .i64 0, .int .i64 0, .int .i64 0, .int .i64 0, .int .i64 0]) (vs := [(0, .agg #[.int .i64 r_4.A, .int .i64 r_4.B, .int .i64 r_4.C, .int .i64 r_4.D]), (1, .int .i64 (IntKind.i64.wrap (Exp1 + 1)))]) (cs := [.int .i64 r_4.A, .int .i64 r_4.B, .int .i64 r_4.C, .int .i64 r_4.D, .int .i64 (IntKind.i64.wrap (Exp1 + 1))]) k_pl_91 k_zero_91 rfl (mpc rfl (mpc rfl mpn)) rfl)) ?_
                refine ra_all (rs := [9]) (by kernel_rfl) rfl ?_
                refine ra_s0 (i := 9) rfl rfl rfl (Ys_store (i := 1) (s := 5) (B := some ⟨b1, 0, none⟩) (T' := 91) (v := .agg #[.int .i64 r_4.A, .int .i64 r_4.B, .int .i64 r_4.C, .int .i64 r_4.D, .int .i64 (IntKind.i64.wrap (Exp1 + 1))]) (vs := [.int .i64 r_4.A, .int .i64 r_4.B, .int .i64 r_4.C, .int .i64 r_4.D, .int .i64 (IntKind.i64.wrap (Exp1 + 1))]) (k := 0) (cs' := [.int .i64 r_4.A, .int .i64 r_4.B, .int .i64 r_4.C, .int .i64 r_4.D, .int .i64 (IntKind.i64.wrap (Exp1 + 1))]) hS26 k_sz_91_5 rfl (hf2.get 5 2 rfl) rfl rfl rfl rfl rfl (Nat.le_of_ble_eq_true rfl) rfl rfl) ?_ ?_
                · rintro _ w_16 ⟨rfl, hS27⟩
                  have hS27 : ST w0 (bl [⟨B, 126, [.bool c.bad], 1⟩]) _ [⟨some ⟨b, 0, none⟩, 91, [.int .i64 A, .int .i64 B1, .int .i64 C, .int .i64 D, .int .i64 Exp], 5⟩, ⟨some ⟨b1, 0, none⟩, 91, [.int .i64 r_4.A, .int .i64 r_4.B, .int .i64 r_4.C, .int .i64 r_4.D, .int .i64 (IntKind.i64.wrap (Exp1 + 1))], 5⟩, ⟨some ⟨b2, 0, none⟩, 91, [.int .i64 0, .int .i64 0, .int .i64 0, .int .i64 0, .int .i64 0], 5⟩, ⟨B, 126, [.bool m2.bad], 1⟩] [] := hS27
                  refine ⟨(ST.sel hS27 [0, 2] rfl rfl), ?_⟩
                  refine ra_done (by kernel_rfl) ?_
                  exact ⟨(FF.cons (hf2.get 0 0 rfl) (FF.cons (hf2.get 4 1 rfl) (FF.cons (hf2.get 5 2 rfl) (FF.cons (hf2.get 6 3 rfl) FF.nil)))), (hS27.sel [3, 0, 1, 2] rfl rfl)⟩
                exact allR_nil
              exact allR_nil
            refine ra_y 32 (i := 6) (v := .int .i64 Exp1) rfl rfl rfl (Y_load1 (B := some ⟨b1, 0, none⟩) (i := 4) (cs := [.int .i64 A1, .int .i64 B2, .int .i64 C1, .int .i64 D1, .int .i64 Exp1]) (v := .int .i64 Exp1) k_sc_3 rfl rfl (hS25.cf (i := 2) rfl) rfl) (ST.sel hS25 [1, 3] rfl rfl) ?_ ?_
            · skip
              refine ra_q 7 33 (v := .int .i64 (IntKind.i64.wrap (Exp1 + 1))) rfl rfl rfl (by kernel_rfl) (by kernel_rfl) (by kernel_rfl) (ST.sel hS25 [1, 3] rfl rfl) (fun w' hw' => (Y_add (k := .i64) (a := Exp1) (b := 1) rfl rfl rfl)) ?_
              refine ra_all (rs := [4]) (by kernel_rfl) rfl ?_
              refine ra_c 30 (i := 4) rfl rfl rfl (Yc_func (g := 178) (vs := [pt B 0, .agg #[.int .i64 r_3.A, .int .i64 r_3.B, .int .i64 r_3.C, .int .i64 r_3.D]]) k_call_178 rfl (mc rfl (mc rfl mn)) (c_spec_l2C_ring (Tl2C.mk bad1) r_3 B _  (hS25.inn [true, false, false, false] rfl [] rfl) hc3)) ?_ ?_
              · rintro _ w_17 ⟨rfl, hd9⟩
                have hS28 := hS25.out [true, false, false, false] rfl hd9
                have hS28 : ST w0 (bl [⟨B, 126, [.bool c.bad], 1⟩]) _ [⟨some ⟨b, 0, none⟩, 91, [.int .i64 A, .int .i64 B1, .int .i64 C, .int .i64 D, .int .i64 Exp], 5⟩, ⟨some ⟨b1, 0, none⟩, 91, [.int .i64 A1, .int .i64 B2, .int .i64 C1, .int .i64 D1, .int .i64 Exp1], 5⟩, ⟨some ⟨b2, 0, none⟩, 91, [.int .i64 0, .int .i64 0, .int .i64 0, .int .i64 0, .int .i64 0], 5⟩, ⟨B, 126, [.bool m2.bad], 1⟩] [] := hS28
                refine ⟨(ST.sel hS28 [0, 2] rfl rfl), ?_⟩
                refine ra_q 8 34 (v := .agg #[.int .i64 r_4.A, .int .i64 r_4.B, .int .i64 r_4.C, .int .i64 r_4.D, .int .i64 (IntKind.i64.wrap (Exp1 + 1))]) rfl rfl rfl (by kernel_rfl) (by kernel_rfl) (by kernel_rfl) (ST.sel hS28 [0, 2] rfl rfl) (fun w' hw' => (Y_buildS (zs := [.int .i64 0, .int .i64 0, .int .i64 0, .int .i64 0, .int .i64 0]) (vs := [(0, .agg #[.int .i64 r_4.A, .int .i64 r_4.B, .int .i64 r_4.C, .int .i64 r_4.D]), (1, .int .i64 (IntKind.i64.wrap (Exp1 + 1)))]) (cs := [.int .i64 r_4.A, .int .i64 r_4.B, .int .i64 r_4.C, .int .i64 r_4.D, .int .i64 (IntKind.i64.wrap (Exp1 + 1))]) k_pl_91 k_zero_91 rfl (mpc rfl (mpc rfl mpn)) rfl)) ?_
                refine ra_all (rs := [9]) (by kernel_rfl) rfl ?_
                refine ra_s0 (i := 9) rfl rfl rfl (Ys_store (i := 1) (s := 5) (B := some ⟨b1, 0, none⟩) (T' := 91) (v := .agg #[.int .i64 r_4.A, .int .i64 r_4.B, .int .i64 r_4.C, .int .i64 r_4.D, .int .i64 (IntKind.i64.wrap (Exp1 + 1))]) (vs := [.int .i64 r_4.A, .int .i64 r_4.B, .int .i64 r_4.C, .int .i64 r_4.D, .int .i64 (IntKind.i64.wrap (Exp1 + 1))]) (k := 0) (cs' := [.int .i64 r_4.A, .int .i64 r_4.B, .int .i64 r_4.C, .int .i64 r_4.D, .int .i64 (IntKind.i64.wrap (Exp1 + 1))]) hS28 k_sz_91_5 rfl (hf2.get 5 2 rfl) rfl rfl rfl rfl rfl (Nat.le_of_ble_eq_true rfl) rfl rfl) ?_ ?_
                · rintro _ w_18 ⟨rfl, hS29⟩
                  have hS29 : ST w0 (bl [⟨B, 126, [.bool c.bad], 1⟩]) _ [⟨some ⟨b, 0, none⟩, 91, [.int .i64 A, .int .i64 B1, .int .i64 C, .int .i64 D, .int .i64 Exp], 5⟩, ⟨some ⟨b1, 0, none⟩, 91, [.int .i64 r_4.A, .int .i64 r_4.B, .int .i64 r_4.C, .int .i64 r_4.D, .int .i64 (IntKind.i64.wrap (Exp1 + 1))], 5⟩, ⟨some ⟨b2, 0, none⟩, 91, [.int .i64 0, .int .i64 0, .int .i64 0, .int .i64 0, .int .i64 0], 5⟩, ⟨B, 126, [.bool m2.bad], 1⟩] [] := hS29
                  refine ⟨(ST.sel hS29 [0, 2] rfl rfl), ?_⟩
                  refine ra_done (by kernel_rfl) ?_
                  exact ⟨(FF.cons (hf2.get 0 0 rfl) (FF.cons (hf2.get 4 1 rfl) (FF.cons (hf2.get 5 2 rfl) (FF.cons (hf2.get 6 3 rfl) FF.nil)))), (hS29.sel [3, 0, 1, 2] rfl rfl)⟩
                exact allR_nil
              exact allR_nil
            exact allR_nil
          refine ra_y 32 (i := 6) (v := .int .i64 Exp1) rfl rfl rfl (Y_load1 (B := some ⟨b1, 0, none⟩) (i := 4) (cs := [.int .i64 A1, .int .i64 B2, .int .i64 C1, .int .i64 D1, .int .i64 Exp1]) (v := .int .i64 Exp1) k_sc_3 rfl rfl (hS24.cf (i := 2) rfl) rfl) (ST.sel hS24 [1, 3] rfl rfl) ?_ ?_
          · skip
            refine ra_q 7 33 (v := .int .i64 (IntKind.i64.wrap (Exp1 + 1))) rfl rfl rfl (by kernel_rfl) (by kernel_rfl) (by kernel_rfl) (ST.sel hS24 [1, 3] rfl rfl) (fun w' hw' => (Y_add (k := .i64) (a := Exp1) (b := 1) rfl rfl rfl)) ?_
            refine ra_all (rs := [3]) (by kernel_rfl) rfl ?_
            refine ra_c 29 (i := 3) rfl rfl rfl (Yc_func (g := 180) (vs := [.agg #[.int .i64 A1, .int .i64 B2, .int .i64 C1, .int .i64 D1]]) k_call_180 rfl (mc rfl mn) (c_spec_l1Root (TRing.mk A1 B2 C1 D1) _  (hS24.inn0 [] rfl) hc2)) ?_ ?_
            · rintro _ w_19 ⟨rfl, hd10⟩
              have hS30 := hS24.out00 hd10
              have hS30 : ST w0 (bl [⟨B, 126, [.bool c.bad], 1⟩]) _ [⟨B, 126, [.bool bad1], 1⟩, ⟨some ⟨b, 0, none⟩, 91, [.int .i64 A, .int .i64 B1, .int .i64 C, .int .i64 D, .int .i64 Exp], 5⟩, ⟨some ⟨b1, 0, none⟩, 91, [.int .i64 A1, .int .i64 B2, .int .i64 C1, .int .i64 D1, .int .i64 Exp1], 5⟩, ⟨some ⟨b2, 0, none⟩, 91, [.int .i64 0, .int .i64 0, .int .i64 0, .int .i64 0, .int .i64 0], 5⟩] [] := hS30
              refine ⟨(ST.sel hS30 [1, 3] rfl rfl), ?_⟩
              refine ra_all (rs := [4]) (by kernel_rfl) rfl ?_
              refine ra_c 30 (i := 4) rfl rfl rfl (Yc_func (g := 178) (vs := [pt B 0, .agg #[.int .i64 r_3.A, .int .i64 r_3.B, .int .i64 r_3.C, .int .i64 r_3.D]]) k_call_178 rfl (mc rfl (mc rfl mn)) (c_spec_l2C_ring (Tl2C.mk bad1) r_3 B _  (hS30.inn [true, false, false, false] rfl [] rfl) hc3)) ?_ ?_
              · rintro _ w_20 ⟨rfl, hd11⟩
                have hS31 := hS30.out [true, false, false, false] rfl hd11
                have hS31 : ST w0 (bl [⟨B, 126, [.bool c.bad], 1⟩]) _ [⟨some ⟨b, 0, none⟩, 91, [.int .i64 A, .int .i64 B1, .int .i64 C, .int .i64 D, .int .i64 Exp], 5⟩, ⟨some ⟨b1, 0, none⟩, 91, [.int .i64 A1, .int .i64 B2, .int .i64 C1, .int .i64 D1, .int .i64 Exp1], 5⟩, ⟨some ⟨b2, 0, none⟩, 91, [.int .i64 0, .int .i64 0, .int .i64 0, .int .i64 0, .int .i64 0], 5⟩, ⟨B, 126, [.bool m2.bad], 1⟩] [] := hS31
                refine ⟨(ST.sel hS31 [0, 2] rfl rfl), ?_⟩
                refine ra_q 8 34 (v := .agg #[.int .i64 r_4.A, .int .i64 r_4.B, .int .i64 r_4.C, .int .i64 r_4.D, .int .i64 (IntKind.i64.wrap (Exp1 + 1))]) rfl rfl rfl (by kernel_rfl) (by kernel_rfl) (by kernel_rfl) (ST.sel hS31 [0, 2] rfl rfl) (fun w' hw' => (Y_buildS (zs := [.int .i64 0, .int .i64 0, .int .i64 0, .int .i64 0, .int .i64 0]) (vs := [(0, .agg #[.int .i64 r_4.A, .int .i64 r_4.B, .int .i64 r_4.C, .int .i64 r_4.D]), (1, .int .i64 (IntKind.i64.wrap (Exp1 + 1)))]) (cs := [.int .i64 r_4.A, .int .i64 r_4.B, .int .i64 r_4.C, .int .i64 r_4.D, .int .i64 (IntKind.i64.wrap (Exp1 + 1))]) k_pl_91 k_zero_91 rfl (mpc rfl (mpc rfl mpn)) rfl)) ?_
                refine ra_all (rs := [9]) (by kernel_rfl) rfl ?_
                refine ra_s0 (i := 9) rfl rfl rfl (Ys_store (i := 1) (s := 5) (B := some ⟨b1, 0, none⟩) (T' := 91) (v := .agg #[.int .i64 r_4.A, .int .i64 r_4.B, .int .i64 r_4.C, .int .i64 r_4.D, .int .i64 (IntKind.i64.wrap (Exp1 + 1))]) (vs := [.int .i64 r_4.A, .int .i64 r_4.B, .int .i64 r_4.C, .int .i64 r_4.D, .int .i64 (IntKind.i64.wrap (Exp1 + 1))]) (k := 0) (cs' := [.int .i64 r_4.A, .int .i64 r_4.B, .int .i64 r_4.C, .int .i64 r_4.D, .int .i64 (IntKind.i64.wrap (Exp1 + 1))]) hS31 k_sz_91_5 rfl (hf2.get 5 2 rfl) rfl rfl rfl rfl rfl (Nat.le_of_ble_eq_true rfl) rfl rfl) ?_ ?_
                · rintro _ w_21 ⟨rfl, hS32⟩
                  have hS32 : ST w0 (bl [⟨B, 126, [.bool c.bad], 1⟩]) _ [⟨some ⟨b, 0, none⟩, 91, [.int .i64 A, .int .i64 B1, .int .i64 C, .int .i64 D, .int .i64 Exp], 5⟩, ⟨some ⟨b1, 0, none⟩, 91, [.int .i64 r_4.A, .int .i64 r_4.B, .int .i64 r_4.C, .int .i64 r_4.D, .int .i64 (IntKind.i64.wrap (Exp1 + 1))], 5⟩, ⟨some ⟨b2, 0, none⟩, 91, [.int .i64 0, .int .i64 0, .int .i64 0, .int .i64 0, .int .i64 0], 5⟩, ⟨B, 126, [.bool m2.bad], 1⟩] [] := hS32
                  refine ⟨(ST.sel hS32 [0, 2] rfl rfl), ?_⟩
                  refine ra_done (by kernel_rfl) ?_
                  exact ⟨(FF.cons (hf2.get 0 0 rfl) (FF.cons (hf2.get 4 1 rfl) (FF.cons (hf2.get 5 2 rfl) (FF.cons (hf2.get 6 3 rfl) FF.nil)))), (hS32.sel [3, 0, 1, 2] rfl rfl)⟩
                exact allR_nil
              exact allR_nil
            exact allR_nil
          exact allR_nil
        refine ra_y 32 (i := 6) (v := .int .i64 Exp1) rfl rfl rfl (Y_load1 (B := some ⟨b1, 0, none⟩) (i := 4) (cs := [.int .i64 A1, .int .i64 B2, .int .i64 C1, .int .i64 D1, .int .i64 Exp1]) (v := .int .i64 Exp1) k_sc_3 rfl rfl (hS24.cf (i := 2) rfl) rfl) (ST.sel hS24 [1, 3] rfl rfl) ?_ ?_
        · skip
          refine ra_q 7 33 (v := .int .i64 (IntKind.i64.wrap (Exp1 + 1))) rfl rfl rfl (by kernel_rfl) (by kernel_rfl) (by kernel_rfl) (ST.sel hS24 [1, 3] rfl rfl) (fun w' hw' => (Y_add (k := .i64) (a := Exp1) (b := 1) rfl rfl rfl)) ?_
          refine ra_all (rs := [2]) (by kernel_rfl) rfl ?_
          refine ra_y 28 (i := 2) (v := .agg #[.int .i64 A1, .int .i64 B2, .int .i64 C1, .int .i64 D1]) rfl rfl rfl (Y_loadA (B := some ⟨b1, 0, none⟩) (i := 0) (cs := [.int .i64 A1, .int .i64 B2, .int .i64 C1, .int .i64 D1, .int .i64 Exp1]) (vs := [.int .i64 A1, .int .i64 B2, .int .i64 C1, .int .i64 D1]) k_ag_89 k_sz_89_4 rfl rfl (hS24.cf (i := 2) rfl) rfl rfl) (ST.sel hS24 [1, 3] rfl rfl) ?_ ?_
          · skip
            refine ra_all (rs := [3]) (by kernel_rfl) rfl ?_
            refine ra_c 29 (i := 3) rfl rfl rfl (Yc_func (g := 180) (vs := [.agg #[.int .i64 A1, .int .i64 B2, .int .i64 C1, .int .i64 D1]]) k_call_180 rfl (mc rfl mn) (c_spec_l1Root (TRing.mk A1 B2 C1 D1) _  (hS24.inn0 [] rfl) hc2)) ?_ ?_
            · rintro _ w_22 ⟨rfl, hd12⟩
              have hS33 := hS24.out00 hd12
              have hS33 : ST w0 (bl [⟨B, 126, [.bool c.bad], 1⟩]) _ [⟨B, 126, [.bool bad1], 1⟩, ⟨some ⟨b, 0, none⟩, 91, [.int .i64 A, .int .i64 B1, .int .i64 C, .int .i64 D, .int .i64 Exp], 5⟩, ⟨some ⟨b1, 0, none⟩, 91, [.int .i64 A1, .int .i64 B2, .int .i64 C1, .int .i64 D1, .int .i64 Exp1], 5⟩, ⟨some ⟨b2, 0, none⟩, 91, [.int .i64 0, .int .i64 0, .int .i64 0, .int .i64 0, .int .i64 0], 5⟩] [] := hS33
              refine ⟨(ST.sel hS33 [1, 3] rfl rfl), ?_⟩
              refine ra_all (rs := [4]) (by kernel_rfl) rfl ?_
              refine ra_c 30 (i := 4) rfl rfl rfl (Yc_func (g := 178) (vs := [pt B 0, .agg #[.int .i64 r_3.A, .int .i64 r_3.B, .int .i64 r_3.C, .int .i64 r_3.D]]) k_call_178 rfl (mc rfl (mc rfl mn)) (c_spec_l2C_ring (Tl2C.mk bad1) r_3 B _  (hS33.inn [true, false, false, false] rfl [] rfl) hc3)) ?_ ?_
              · rintro _ w_23 ⟨rfl, hd13⟩
                have hS34 := hS33.out [true, false, false, false] rfl hd13
                have hS34 : ST w0 (bl [⟨B, 126, [.bool c.bad], 1⟩]) _ [⟨some ⟨b, 0, none⟩, 91, [.int .i64 A, .int .i64 B1, .int .i64 C, .int .i64 D, .int .i64 Exp], 5⟩, ⟨some ⟨b1, 0, none⟩, 91, [.int .i64 A1, .int .i64 B2, .int .i64 C1, .int .i64 D1, .int .i64 Exp1], 5⟩, ⟨some ⟨b2, 0, none⟩, 91, [.int .i64 0, .int .i64 0, .int .i64 0, .int .i64 0, .int .i64 0], 5⟩, ⟨B, 126, [.bool m2.bad], 1⟩] [] := hS34
                refine ⟨(ST.sel hS34 [0, 2] rfl rfl), ?_⟩
                refine ra_q 8 34 (v := .agg #[.int .i64 r_4.A, .int .i64 r_4.B, .int .i64 r_4.C, .int .i64 r_4.D, .int .i64 (IntKind.i64.wrap (Exp1 + 1))]) rfl rfl rfl (by kernel_rfl) (by kernel_rfl) (by kernel_rfl) (ST.sel hS34 [0, 2] rfl rfl) (fun w' hw' => (Y_buildS (zs := [.int .i64 0, .int .i64 0, .int .i64 0, .int .i64 0, .int .i64 0]) (vs := [(0, .agg #[.int .i64 r_4.A, .int .i64 r_4.B, .int .i64 r_4.C, .int .i64 r_4.D]), (1, .int .i64 (IntKind.i64.wrap (Exp1 + 1)))]) (cs := [.int .i64 r_4.A, .int .i64 r_4.B, .int .i64 r_4.C, .int .i64 r_4.D, .int .i64 (IntKind.i64.wrap (Exp1 + 1))]) k_pl_91 k_zero_91 rfl (mpc rfl (mpc rfl mpn)) rfl)) ?_
                refine ra_all (rs := [9]) (by kernel_rfl) rfl ?_
                refine ra_s0 (i := 9) rfl rfl rfl (Ys_store (i := 1) (s := 5) (B := some ⟨b1, 0, none⟩) (T' := 91) (v := .agg #[.int .i64 r_4.A, .int .i64 r_4.B, .int .i64 r_4.C, .int .i64 r_4.D, .int .i64 (IntKind.i64.wrap (Exp1 + 1))]) (vs := [.int .i64 r_4.A, .int .i64 r_4.B, .int .i64 r_4.C, .int .i64 r_4.D, .int .i64 (IntKind.i64.wrap (Exp1 + 1))]) (k := 0) (cs' := [.int .i64 r_4.A, .int .i64 r_4.B, .int .i64 r_4.C, .int .i64 r_4.D, .int .i64 (IntKind.i64.wrap (Exp1 + 1))]) hS34 k_sz_91_5 rfl (hf2.get 5 2 rfl) rfl rfl rfl rfl rfl (Nat.le_of_ble_eq_true rfl) rfl rfl) ?_ ?_
                · rintro _ w_24 ⟨rfl, hS35⟩
                  have hS35 : ST w0 (bl [⟨B, 126, [.bool c.bad], 1⟩]) _ [⟨some ⟨b, 0, none⟩, 91, [.int .i64 A, .int .i64 B1, .int .i64 C, .int .i64 D, .int .i64 Exp], 5⟩, ⟨some ⟨b1, 0, none⟩, 91, [.int .i64 r_4.A, .int .i64 r_4.B, .int .i64 r_4.C, .int .i64 r_4.D, .int .i64 (IntKind.i64.wrap (Exp1 + 1))], 5⟩, ⟨some ⟨b2, 0, none⟩, 91, [.int .i64 0, .int .i64 0, .int .i64 0, .int .i64 0, .int .i64 0], 5⟩, ⟨B, 126, [.bool m2.bad], 1⟩] [] := hS35
                  refine ⟨(ST.sel hS35 [0, 2] rfl rfl), ?_⟩
                  refine ra_done (by kernel_rfl) ?_
                  exact ⟨(FF.cons (hf2.get 0 0 rfl) (FF.cons (hf2.get 4 1 rfl) (FF.cons (hf2.get 5 2 rfl) (FF.cons (hf2.get 6 3 rfl) FF.nil)))), (hS35.sel [3, 0, 1, 2] rfl rfl)⟩
                exact allR_nil
              exact allR_nil
            exact allR_nil
          exact allR_nil
        exact allR_nil
      rintro f w ⟨hf3, hS23⟩
      obtain rfl := some_inj hF5
      exact ⟨k_3, Nat.lt_succ_self _, m2.bad, r_4.A, r_4.B, r_4.C, r_4.D, (IntKind.i64.wrap (Exp1 + 1)), (FF.cons (hf3.get 0 0 rfl) (FF.cons (hf3.get 4 1 rfl) (FF.cons (hf3.get 5 2 rfl) (FF.cons (hf3.get 6 3 rfl) FF.nil)))), (hS23.sel [0, 1, 2, 3] rfl rfl), hL3⟩
    · skip
      have hF6 := cf' hb2 hb3
      refine cw_exit rfl ?_
      obtain rfl := some_inj hF6
      obtain rfl := some_inj hL3
      refine cw_seq ?_
      obtain ⟨r_5, hc4, hF4⟩ := bind_inv hF4
      obtain ⟨⟨r_6, m3⟩, hc5, hF4⟩ := bind_inv hF4
      obtain ⟨r_7, hc6, hF4⟩ := bind_inv hF4
      refine ra_start (ST.sel hS20 [1, 2] rfl rfl).fn (by kernel_rfl) ?_
      have hS39 := hS20.drew
      refine ra_q 0 35 (v := pt B 0) rfl rfl rfl (by kernel_rfl) (by kernel_rfl) (by kernel_rfl) (ST.sel hS39 [1, 2] rfl rfl) (fun w' hw' => (Y_move (v := pt B 0) rfl (hf2.get 0 0 rfl))) ?_
      refine ra_q 1 36 (v := pt (some ⟨b, 0, none⟩) 0) rfl rfl rfl (by kernel_rfl) (by kernel_rfl) (by kernel_rfl) (ST.sel hS39 [1, 2] rfl rfl) (fun w' hw' => (Y_fieldAddr (B := some ⟨b, 0, none⟩) (i := 0) (s := 3) k_fd_91_0_0_89 k_sz_89_4 rfl (hf2.get 4 1 rfl))) ?_
      refine ra_q 2 37 (v := .agg #[.int .i64 A, .int .i64 B1, .int .i64 C, .int .i64 D]) rfl rfl rfl (by kernel_rfl) (by kernel_rfl) (by kernel_rfl) (ST.sel hS39 [1, 2] rfl rfl) (fun w' hw' => (Y_loadA (B := some ⟨b, 0, none⟩) (i := 0) (cs := [.int .i64 A, .int .i64 B1, .int .i64 C, .int .i64 D, .int .i64 Exp]) (vs := [.int .i64 A, .int .i64 B1, .int .i64 C, .int .i64 D]) k_ag_89 k_sz_89_4 rfl rfl (ST.cf hw' (i := 0) rfl) rfl rfl)) ?_
      refine ra_q 3 38 (v := pt (some ⟨b1, 0, none⟩) 0) rfl rfl rfl (by kernel_rfl) (by kernel_rfl) (by kernel_rfl) (ST.sel hS39 [1, 2] rfl rfl) (fun w' hw' => (Y_fieldAddr (B := some ⟨b1, 0, none⟩) (i := 0) (s := 3) k_fd_91_0_0_89 k_sz_89_4 rfl (hf2.get 5 2 rfl))) ?_
      refine ra_q 4 39 (v := .agg #[.int .i64 A1, .int .i64 B2, .int .i64 C1, .int .i64 D1]) rfl rfl rfl (by kernel_rfl) (by kernel_rfl) (by kernel_rfl) (ST.sel hS39 [1, 2] rfl rfl) (fun w' hw' => (Y_loadA (B := some ⟨b1, 0, none⟩) (i := 0) (cs := [.int .i64 A1, .int .i64 B2, .int .i64 C1, .int .i64 D1, .int .i64 Exp1]) (vs := [.int .i64 A1, .int .i64 B2, .int .i64 C1, .int .i64 D1]) k_ag_89 k_sz_89_4 rfl rfl (ST.cf hw' (i := 1) rfl) rfl rfl)) ?_
      refine ra_q 7 42 (v := pt (some ⟨b, 0, none⟩) 4) rfl rfl rfl (by kernel_rfl) (by kernel_rfl) (by kernel_rfl) (ST.sel hS39 [1, 2] rfl rfl) (fun w' hw' => (Y_fieldAddr (B := some ⟨b, 0, none⟩) (i := 0) (s := 0) k_fd_91_1_4_3 k_sz_3_1 rfl (hf2.get 4 1 rfl))) ?_
      refine ra_q 8 43 (v := .int .i64 Exp) rfl rfl rfl (by kernel_rfl) (by kernel_rfl) (by kernel_rfl) (ST.sel hS39 [1, 2] rfl rfl) (fun w' hw' => (Y_load1 (B := some ⟨b, 0, none⟩) (i := 4) (cs := [.int .i64 A, .int .i64 B1, .int .i64 C, .int .i64 D, .int .i64 Exp]) (v := .int .i64 Exp) k_sc_3 rfl rfl (ST.cf hw' (i := 0) rfl) rfl)) ?_
      refine ra_all (rs := [5]) (by kernel_rfl) rfl ?_
      refine ra_c 40 (i := 5) rfl rfl rfl (Yc_func (g := 181) (vs := [.agg #[.int .i64 A, .int .i64 B1, .int .i64 C, .int .i64 D], .agg #[.int .i64 A1, .int .i64 B2, .int .i64 C1, .int .i64 D1]]) k_call_181 rfl (mc rfl (mc rfl mn)) (c_spec_l1Add (TRing.mk A B1 C D) (TRing.mk A1 B2 C1 D1) _  (hS39.inn0 [] rfl) hc4)) ?_ ?_
      · rintro _ w_25 ⟨rfl, hd14⟩
        have hS40 := hS39.out00 hd14
        have hS40 : ST w0 (bl [⟨B, 126, [.bool c.bad], 1⟩]) _ [⟨B, 126, [.bool bad1], 1⟩, ⟨some ⟨b, 0, none⟩, 91, [.int .i64 A, .int .i64 B1, .int .i64 C, .int .i64 D, .int .i64 Exp], 5⟩, ⟨some ⟨b1, 0, none⟩, 91, [.int .i64 A1, .int .i64 B2, .int .i64 C1, .int .i64 D1, .int .i64 Exp1], 5⟩, ⟨some ⟨b2, 0, none⟩, 91, [.int .i64 0, .int .i64 0, .int .i64 0, .int .i64 0, .int .i64 0], 5⟩] [] := hS40
        refine ⟨(ST.sel hS40 [1, 2] rfl rfl), ?_⟩
        refine ra_all (rs := [6]) (by kernel_rfl) rfl ?_
        refine ra_c 41 (i := 6) rfl rfl rfl (Yc_func (g := 178) (vs := [pt B 0, .agg #[.int .i64 r_5.A, .int .i64 r_5.B, .int .i64 r_5.C, .int .i64 r_5.D]]) k_call_178 rfl (mc rfl (mc rfl mn)) (c_spec_l2C_ring (Tl2C.mk bad1) r_5 B _  (hS40.inn [true, false, false, false] rfl [] rfl) hc5)) ?_ ?_
        · rintro _ w_26 ⟨rfl, hd15⟩
          have hS41 := hS40.out [true, false, false, false] rfl hd15
          have hS41 : ST w0 (bl [⟨B, 126, [.bool c.bad], 1⟩]) _ [⟨some ⟨b, 0, none⟩, 91, [.int .i64 A, .int .i64 B1, .int .i64 C, .int .i64 D, .int .i64 Exp], 5⟩, ⟨some ⟨b1, 0, none⟩, 91, [.int .i64 A1, .int .i64 B2, .int .i64 C1, .int .i64 D1, .int .i64 Exp1], 5⟩, ⟨some ⟨b2, 0, none⟩, 91, [.int .i64 0, .int .i64 0, .int .i64 0, .int .i64 0, .int .i64 0], 5⟩, ⟨B, 126, [.bool m3.bad], 1⟩] [] := hS41
          refine ⟨(ST.sel hS41 [0, 1] rfl rfl), ?_⟩
          refine ra_all (rs := [9]) (by kernel_rfl) rfl ?_
          refine ra_c 44 (i := 9) rfl rfl rfl (Yc_func (g := 177) (vs := [.agg #[.int .i64 r_6.A, .int .i64 r_6.B, .int .i64 r_6.C, .int .i64 r_6.D], .int .i64 Exp]) k_call_177 rfl (mc rfl (mc rfl mn)) (c_spec_l2Low r_6 Exp _  (hS41.inn0 [] rfl) hc6)) ?_ ?_
          · rintro _ w_27 ⟨rfl, hd16⟩
            have hS42 := hS41.out00 hd16
            have hS42 : ST w0 (bl [⟨B, 126, [.bool c.bad], 1⟩]) _ [⟨some ⟨b, 0, none⟩, 91, [.int .i64 A, .int .i64 B1, .int .i64 C, .int .i64 D, .int .i64 Exp], 5⟩, ⟨some ⟨b1, 0, none⟩, 91, [.int .i64 A1, .int .i64 B2, .int .i64 C1, .int .i64 D1, .int .i64 Exp1], 5⟩, ⟨some ⟨b2, 0, none⟩, 91, [.int .i64 0, .int .i64 0, .int .i64 0, .int .i64 0, .int .i64 0], 5⟩, ⟨B, 126, [.bool m3.bad], 1⟩] [] := hS42
            refine ⟨(ST.sel hS42 [0, 1] rfl rfl), ?_⟩
            refine ra_all (rs := [10]) (by kernel_rfl) rfl ?_
            refine ra_s0 (i := 10) rfl rfl rfl (Ys_store (i := 2) (s := 5) (B := some ⟨b2, 0, none⟩) (T' := 91) (v := .agg #[.int .i64 r_7.Num.A, .int .i64 r_7.Num.B, .int .i64 r_7.Num.C, .int .i64 r_7.Num.D, .int .i64 r_7.Exp]) (vs := [.int .i64 r_7.Num.A, .int .i64 r_7.Num.B, .int .i64 r_7.Num.C, .int .i64 r_7.Num.D, .int .i64 r_7.Exp]) (k := 0) (cs' := [.int .i64 r_7.Num.A, .int .i64 r_7.Num.B, .int .i64 r_7.Num.C, .int .i64 r_7.Num.D, .int .i64 r_7.Exp]) hS42 k_sz_91_5 rfl (hf2.get 6 3 rfl) rfl rfl rfl rfl rfl (Nat.le_of_ble_eq_true rfl) rfl rfl) ?_ ?_
            · rintro _ w_28 ⟨rfl, hS43⟩
              have hS43 : ST w0 (bl [⟨B, 126, [.bool c.bad], 1⟩]) _ [⟨some ⟨b, 0, none⟩, 91, [.int .i64 A, .int .i64 B1, .int .i64 C, .int .i64 D, .int .i64 Exp], 5⟩, ⟨some ⟨b1, 0, none⟩, 91, [.int .i64 A1, .int .i64 B2, .int .i64 C1, .int .i64 D1, .int .i64 Exp1], 5⟩, ⟨some ⟨b2, 0, none⟩, 91, [.int .i64 r_7.Num.A, .int .i64 r_7.Num.B, .int .i64 r_7.Num.C, .int .i64 r_7.Num.D, .int .i64 r_7.Exp], 5⟩, ⟨B, 126, [.bool m3.bad], 1⟩] [] := hS43
              refine ⟨(ST.sel hS43 [0, 1] rfl rfl), ?_⟩
              refine ra_done (by kernel_rfl) ?_
              refine cw_ret ?_
              obtain ⟨rfl, rfl⟩ := pr2 (some_inj hF4)
              exact ret1 Try.results127 (v1 := .agg #[.int .i64 r_7.Num.A, .int .i64 r_7.Num.B, .int .i64 r_7.Num.C, .int .i64 r_7.Num.D, .int .i64 r_7.Exp]) (resAt_cellA (B := some ⟨b2, 0, none⟩) (i := 0) (cs := [.int .i64 r_7.Num.A, .int .i64 r_7.Num.B, .int .i64 r_7.Num.C, .int .i64 r_7.Num.D, .int .i64 r_7.Exp]) (vs := [.int .i64 r_7.Num.A, .int .i64 r_7.Num.B, .int .i64 r_7.Num.C, .int .i64 r_7.Num.D, .int .i64 r_7.Exp]) (hf2.get 6 3 rfl) k_ag_91 k_sz_91_5 (hS43.cf (i := 2) rfl) rfl rfl) ⟨rfl, (ST.subR (R' := []) (hS43.sel [3] rfl rfl) (fun _ h => by cases h))⟩
            exact allR_nil
          exact allR_nil
        exact allR_nil
      exact allR_nil
end Go.VK
