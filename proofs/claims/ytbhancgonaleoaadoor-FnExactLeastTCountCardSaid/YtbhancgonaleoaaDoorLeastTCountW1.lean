/- Walks: each Go function returns what its Lean function says. By program. -/
import Derived.Test.YtbhancgonaleoaaDoorLeastTCountFa
set_option linter.unusedVariables false
set_option maxRecDepth 100000
set_option maxHeartbeats 1000000
namespace Go.VK
open Go.RowKit
open Go.Proofs
open Go.IntKind
attribute [local irreducible] CW RW RA CV Y Yw Yc Ys RetOf
attribute [local irreducible] F_laws_szDyadicS F_laws_szMatrix F_laws_toRing F_laws_toDyadic F_laws_toDyadicS F_laws_toMatrix F_laws_eqRing F_laws_eqDyadic F_laws_eqDyadicS F_laws_eqMatrix F_spec_l1In F_spec_l1All F_spec_l1Good F_spec_l2C_ring F_spec_l1Root F_spec_l1Even F_spec_l1Half F_spec_l2Low F_spec_l1Add F_spec_l2C_add F_spec_l1Mul F_spec_l2C_mul F_spec_l2C_times F_spec_l1Conj F_spec_l2Conj F_spec_l3Adj F_spec_l1Has F_spec_l3Dim F_spec_l2Good F_spec_l3Good F_spec_EqualMatrices F_spec_l1Turn F_spec_l2Power F_spec_l3Unit F_spec_IsUnitary F_spec_l9Good F_spec_l1Neg F_spec_l2Neg F_spec_l6One F_spec_l9Pauli F_spec_l9Bloch F_spec_BlochOf F_spec_l1Most F_spec_l9Exp F_spec_LeastTCount F_impl_within F_impl_isDim F_slices_IndexFunc_impl_Dyadic_impl_Dyadic F_slices_ContainsFunc_impl_Dyadic_impl_Dyadic F_impl_isCoef F_impl_IsValidRing F_impl_isEven F_impl_IsValidDyadic F_impl_IsValidMatrix_1 F_impl_IsValidMatrix F_impl_matrixOf F_impl_ringIf F_impl_Conjugate F_impl_ConjDyadic F_impl_Matrix_at F_impl_Adjoint_1 F_impl_Adjoint F_impl_MulRing F_impl_DivRootTwo F_impl_DyadicOf F_impl_MulDyadic F_impl_MulRootTwo F_impl_raised F_impl_combined F_impl_AddRing F_impl_AddDyadic F_impl_MulMatrix_1 F_impl_MulMatrix F_impl_whole F_impl_IdentityMatrix_1 F_impl_IdentityMatrix F_slices_Equal_impl_Dyadic_impl_Dyadic F_impl_EqualMatrices F_impl_IsUnitary F_impl_IsOneQubit F_impl_isTwo F_impl_IsValidGate F_impl_MulOmega F_impl_phase F_impl_bitOf F_impl_flipped F_impl_comesFrom F_impl_small F_impl_entry F_impl_GateMatrix_1 F_impl_GateMatrix F_impl_TraceOf F_impl_blochCell F_impl_BlochOf F_impl_blochExp F_impl_LeastTCount F_laws_FnExactLeastTCount
theorem c_laws_szDyadicS (a : List TDyadic) (left : Int) (B : Option Addr) (c n : Nat) (w0 : World) (hn : a.length = n) (hS : ST w0 [] w0 [] [⟨B, (a.flatMap enc_Dyadic)⟩]) {r_ : Int} (hF : F_laws_szDyadicS a left = some r_) :
    CV Tryd.prog 16 #[.slice B n c, vi left] w0 (fun v w' => v = vi r_ ∧ ST w0 [] w' [] []) := by
  subst hn
  unfold F_laws_szDyadicS at hF
  refine cv_of_cw 12 Tryd.func16 rfl Tryd.ntmps16 rfl ?_
  refine cw_seq ?_
  refine cw_region ?_
  refine sq 4 rfl rfl (Y_assign (v := vi 0) rfl rfl) ?_
  refine rw_nil ?_
  refine cw_seq ?_
  refine cw_region ?_
  refine sq 5 rfl rfl (Y_move (v := vi left) rfl rfl) ?_
  refine sq 6 rfl rfl (Y_move (v := .slice B a.length c) rfl rfl) ?_
  refine sq 7 rfl rfl (Y_len (B := B) (m := a.length) (c := c) k_sl_22_67 rfl rfl) ?_
  refine sq 8 rfl rfl (Y_sub (k := .i64) (a := left) (b := (a.length : Int)) rfl rfl rfl) ?_
  refine sq 1 rfl rfl (Y_assign (v := vi (i64.wrap (left - (a.length : Int)))) rfl rfl) ?_
  refine rw_nil ?_
  refine cw_seq ?_
  refine cw_seq ?_
  refine cw_region ?_
  refine sq 9 rfl rfl (Y_move (v := vi (i64.wrap (left - (a.length : Int)))) rfl rfl) ?_
  refine sq 10 rfl rfl (Y_lt (k := .i64) (a := (i64.wrap (left - (a.length : Int)))) (b := 0) rfl rfl rfl) ?_
  refine rw_nil ?_
  refine cw_cond (b := (decide ((i64.wrap (left - (a.length : Int))) < 0))) rfl (fun hb => ?_) (fun hb => ?_)
  · skip
    have hF1 := ct hF hb
    refine cw_seq ?_
    refine cw_region ?_
    refine sq 4 rfl rfl (Y_assign (v := vi (-1)) rfl rfl) ?_
    refine rw_nil ?_
    refine cw_ret ?_
    obtain rfl := some_inj hF1
    exact ret1 Tryd.results16 (v1 := vi (-1)) (resAt_tmp rfl) ⟨rfl, (ST.subR (R' := []) (hS.sel [] rfl rfl) (fun _ h => by cases h))⟩
  · skip
    have hF2 := cf' hF hb
    refine cw_skip ?_
    refine cw_seq ?_
    refine cw_region ?_
    refine sq 11 rfl rfl (Y_move (v := vi (i64.wrap (left - (a.length : Int)))) rfl rfl) ?_
    refine sq 4 rfl rfl (Y_assign (v := vi (i64.wrap (left - (a.length : Int)))) rfl rfl) ?_
    refine rw_nil ?_
    refine cw_ret ?_
    obtain rfl := some_inj hF2
    exact ret1 Tryd.results16 (v1 := vi (i64.wrap (left - (a.length : Int)))) (resAt_tmp rfl) ⟨rfl, (ST.subR (R' := []) (hS.sel [] rfl rfl) (fun _ h => by cases h))⟩

theorem c_laws_szMatrix (a : TMatrix) (left : Int) (B : Option Addr) (c n : Nat) (w0 : World) (hn : a.Cells.length = n) (hS : ST w0 [] w0 [] [⟨B, (a.Cells.flatMap enc_Dyadic)⟩]) {r_ : Int} (hF : F_laws_szMatrix a left = some r_) :
    CV Tryd.prog 5 #[.agg #[vi a.Rows, vi a.Cols, .slice B n c], vi left] w0 (fun v w' => v = vi r_ ∧ ST w0 [] w' [] []) := by
  subst hn
  unfold F_laws_szMatrix at hF
  refine cv_of_cw 12 Tryd.func5 rfl Tryd.ntmps5 rfl ?_
  refine cw_seq ?_
  refine cw_region ?_
  refine ss 2 rfl rfl (Ys_box (T := 24) (v := .agg #[vi a.Rows, vi a.Cols, .slice B a.Cells.length c]) (cs := [vi a.Rows, vi a.Cols, .slice B a.Cells.length c]) (m := 3) hS rfl rfl rfl rfl) ?_
  rintro _ w_ ⟨b, rfl, hS1⟩
  refine sq 4 rfl rfl (Y_assign (v := vi 0) rfl rfl) ?_
  refine rw_nil ?_
  refine cw_seq ?_
  refine cw_region ?_
  refine sq 5 rfl rfl (Y_fieldAddr (B := some ⟨b, 0, none⟩) (i := 0) (s := 0) k_fd_24_2_2_22 k_sz_22_1 rfl rfl) ?_
  refine sq 6 rfl rfl (Y_load1 (B := some ⟨b, 0, none⟩) (i := 2) (cs := [vi a.Rows, vi a.Cols, .slice B a.Cells.length c]) (v := .slice B a.Cells.length c) k_sc_22 rfl rfl (hS1.cf (i := 0) rfl) rfl) ?_
  refine sq 7 rfl rfl (Y_move (v := vi left) rfl rfl) ?_
  obtain ⟨r_1, hc, hF⟩ := bind_inv hF
  refine sc 8 rfl rfl (Yc_func (g := 16) (vs := [.slice B a.Cells.length c, vi left]) k_call_16 rfl (mc rfl (mc rfl mn)) (c_laws_szDyadicS a.Cells left B c a.Cells.length _ rfl (hS1.inn0 [(true, 0)] rfl) hc)) ?_
  rintro _ w_1 ⟨rfl, hd⟩
  have hS2 := hS1.out00 hd
  refine sq 1 rfl rfl (Y_assign (v := vi r_1) rfl rfl) ?_
  refine rw_nil ?_
  refine cw_seq ?_
  refine cw_seq ?_
  refine cw_region ?_
  refine sq 9 rfl rfl (Y_move (v := vi r_1) rfl rfl) ?_
  refine sq 10 rfl rfl (Y_lt (k := .i64) (a := r_1) (b := 0) rfl rfl rfl) ?_
  refine rw_nil ?_
  refine cw_cond (b := (decide (r_1 < 0))) rfl (fun hb => ?_) (fun hb => ?_)
  · skip
    have hF1 := ct hF hb
    refine cw_seq ?_
    refine cw_region ?_
    refine sq 4 rfl rfl (Y_assign (v := vi (-1)) rfl rfl) ?_
    refine rw_nil ?_
    refine cw_ret ?_
    obtain rfl := some_inj hF1
    exact ret1 Tryd.results5 (v1 := vi (-1)) (resAt_tmp rfl) ⟨rfl, (ST.subR (R' := []) (hS2.sel [] rfl rfl) (fun _ h => by cases h))⟩
  · skip
    have hF2 := cf' hF hb
    refine cw_skip ?_
    refine cw_seq ?_
    refine cw_region ?_
    refine sq 11 rfl rfl (Y_move (v := vi r_1) rfl rfl) ?_
    refine sq 4 rfl rfl (Y_assign (v := vi r_1) rfl rfl) ?_
    refine rw_nil ?_
    refine cw_ret ?_
    obtain rfl := some_inj hF2
    exact ret1 Tryd.results5 (v1 := vi r_1) (resAt_tmp rfl) ⟨rfl, (ST.subR (R' := []) (hS2.sel [] rfl rfl) (fun _ h => by cases h))⟩

theorem c_laws_toRing (a : TRing)  (w0 : World)  (hS : ST w0 [] w0 [] []) {r_ : TRing} (hF : F_laws_toRing a = some r_) :
    CV Tryd.prog 57 #[.agg #[vi a.A, vi a.B, vi a.C, vi a.D]] w0 (fun v w' => v = .agg #[vi r_.A, vi r_.B, vi r_.C, vi r_.D] ∧ ST w0 [] w' [] []) := by
  unfold F_laws_toRing at hF
  refine cv_of_cw 17 Tryd.func57 rfl Tryd.ntmps57 rfl ?_
  refine cw_seq ?_
  refine cw_region ?_
  refine ss 1 rfl rfl (Ys_box (T := 65) (v := .agg #[vi a.A, vi a.B, vi a.C, vi a.D]) (cs := [vi a.A, vi a.B, vi a.C, vi a.D]) (m := 4) hS rfl rfl rfl rfl) ?_
  rintro _ w_ ⟨b, rfl, hS1⟩
  refine ss 2 rfl rfl (Ys_alloc (T := 47) (cs := [vi 0, vi 0, vi 0, vi 0]) (m := 4) hS1 k_zero_47 rfl rfl rfl) ?_
  rintro _ w_1 ⟨b1, rfl, hS2⟩
  have hS2 : ST w0 [] _ [⟨some ⟨b, 0, none⟩, 65, [vi a.A, vi a.B, vi a.C, vi a.D], 4⟩, ⟨some ⟨b1, 0, none⟩, 47, [vi 0, vi 0, vi 0, vi 0], 4⟩] [] := hS2
  refine rw_nil ?_
  refine cw_seq ?_
  refine cw_region ?_
  refine ss 3 rfl rfl (Ys_alloc (T := 47) (cs := [vi 0, vi 0, vi 0, vi 0]) (m := 4) hS2 k_zero_47 rfl rfl rfl) ?_
  rintro _ w_2 ⟨b2, rfl, hS3⟩
  have hS3 : ST w0 [] _ [⟨some ⟨b, 0, none⟩, 65, [vi a.A, vi a.B, vi a.C, vi a.D], 4⟩, ⟨some ⟨b1, 0, none⟩, 47, [vi 0, vi 0, vi 0, vi 0], 4⟩, ⟨some ⟨b2, 0, none⟩, 47, [vi 0, vi 0, vi 0, vi 0], 4⟩] [] := hS3
  refine rw_nil ?_
  refine cw_seq ?_
  refine cw_region ?_
  refine sq 4 rfl rfl (Y_fieldAddr (B := some ⟨b, 0, none⟩) (i := 0) (s := 0) k_fd_65_0_0_3 k_sz_3_1 rfl rfl) ?_
  refine sq 5 rfl rfl (Y_load1 (B := some ⟨b, 0, none⟩) (i := 0) (cs := [vi a.A, vi a.B, vi a.C, vi a.D]) (v := vi a.A) k_sc_3 rfl rfl (hS3.cf (i := 0) rfl) rfl) ?_
  refine sq 6 rfl rfl (Y_fieldAddr (B := some ⟨b2, 0, none⟩) (i := 0) (s := 0) k_fd_47_0_0_3 k_sz_3_1 rfl rfl) ?_
  refine ss0 rfl rfl (Ys_store (i := 2) (s := 1) (B := some ⟨b2, 0, none⟩) (T' := 47) (v := vi a.A) (vs := [vi a.A]) (k := 0) (cs' := [vi a.A, vi 0, vi 0, vi 0]) hS3 k_sz_3_1 rfl rfl rfl rfl rfl rfl rfl (Nat.le_of_ble_eq_true rfl) rfl rfl) ?_
  rintro _ w_3 ⟨rfl, hS4⟩
  have hS4 : ST w0 [] _ [⟨some ⟨b, 0, none⟩, 65, [vi a.A, vi a.B, vi a.C, vi a.D], 4⟩, ⟨some ⟨b1, 0, none⟩, 47, [vi 0, vi 0, vi 0, vi 0], 4⟩, ⟨some ⟨b2, 0, none⟩, 47, [vi a.A, vi 0, vi 0, vi 0], 4⟩] [] := hS4
  refine rw_nil ?_
  refine cw_seq ?_
  refine cw_region ?_
  refine sq 7 rfl rfl (Y_fieldAddr (B := some ⟨b, 0, none⟩) (i := 0) (s := 0) k_fd_65_1_1_3 k_sz_3_1 rfl rfl) ?_
  refine sq 8 rfl rfl (Y_load1 (B := some ⟨b, 0, none⟩) (i := 1) (cs := [vi a.A, vi a.B, vi a.C, vi a.D]) (v := vi a.B) k_sc_3 rfl rfl (hS4.cf (i := 0) rfl) rfl) ?_
  refine sq 9 rfl rfl (Y_fieldAddr (B := some ⟨b2, 0, none⟩) (i := 0) (s := 0) k_fd_47_1_1_3 k_sz_3_1 rfl rfl) ?_
  refine ss0 rfl rfl (Ys_store (i := 2) (s := 1) (B := some ⟨b2, 0, none⟩) (T' := 47) (v := vi a.B) (vs := [vi a.B]) (k := 1) (cs' := [vi a.A, vi a.B, vi 0, vi 0]) hS4 k_sz_3_1 rfl rfl rfl rfl rfl rfl rfl (Nat.le_of_ble_eq_true rfl) rfl rfl) ?_
  rintro _ w_4 ⟨rfl, hS5⟩
  have hS5 : ST w0 [] _ [⟨some ⟨b, 0, none⟩, 65, [vi a.A, vi a.B, vi a.C, vi a.D], 4⟩, ⟨some ⟨b1, 0, none⟩, 47, [vi 0, vi 0, vi 0, vi 0], 4⟩, ⟨some ⟨b2, 0, none⟩, 47, [vi a.A, vi a.B, vi 0, vi 0], 4⟩] [] := hS5
  refine rw_nil ?_
  refine cw_seq ?_
  refine cw_region ?_
  refine sq 10 rfl rfl (Y_fieldAddr (B := some ⟨b, 0, none⟩) (i := 0) (s := 0) k_fd_65_2_2_3 k_sz_3_1 rfl rfl) ?_
  refine sq 11 rfl rfl (Y_load1 (B := some ⟨b, 0, none⟩) (i := 2) (cs := [vi a.A, vi a.B, vi a.C, vi a.D]) (v := vi a.C) k_sc_3 rfl rfl (hS5.cf (i := 0) rfl) rfl) ?_
  refine sq 12 rfl rfl (Y_fieldAddr (B := some ⟨b2, 0, none⟩) (i := 0) (s := 0) k_fd_47_2_2_3 k_sz_3_1 rfl rfl) ?_
  refine ss0 rfl rfl (Ys_store (i := 2) (s := 1) (B := some ⟨b2, 0, none⟩) (T' := 47) (v := vi a.C) (vs := [vi a.C]) (k := 2) (cs' := [vi a.A, vi a.B, vi a.C, vi 0]) hS5 k_sz_3_1 rfl rfl rfl rfl rfl rfl rfl (Nat.le_of_ble_eq_true rfl) rfl rfl) ?_
  rintro _ w_5 ⟨rfl, hS6⟩
  have hS6 : ST w0 [] _ [⟨some ⟨b, 0, none⟩, 65, [vi a.A, vi a.B, vi a.C, vi a.D], 4⟩, ⟨some ⟨b1, 0, none⟩, 47, [vi 0, vi 0, vi 0, vi 0], 4⟩, ⟨some ⟨b2, 0, none⟩, 47, [vi a.A, vi a.B, vi a.C, vi 0], 4⟩] [] := hS6
  refine rw_nil ?_
  refine cw_seq ?_
  refine cw_region ?_
  refine sq 13 rfl rfl (Y_fieldAddr (B := some ⟨b, 0, none⟩) (i := 0) (s := 0) k_fd_65_3_3_3 k_sz_3_1 rfl rfl) ?_
  refine sq 14 rfl rfl (Y_load1 (B := some ⟨b, 0, none⟩) (i := 3) (cs := [vi a.A, vi a.B, vi a.C, vi a.D]) (v := vi a.D) k_sc_3 rfl rfl (hS6.cf (i := 0) rfl) rfl) ?_
  refine sq 15 rfl rfl (Y_fieldAddr (B := some ⟨b2, 0, none⟩) (i := 0) (s := 0) k_fd_47_3_3_3 k_sz_3_1 rfl rfl) ?_
  refine ss0 rfl rfl (Ys_store (i := 2) (s := 1) (B := some ⟨b2, 0, none⟩) (T' := 47) (v := vi a.D) (vs := [vi a.D]) (k := 3) (cs' := [vi a.A, vi a.B, vi a.C, vi a.D]) hS6 k_sz_3_1 rfl rfl rfl rfl rfl rfl rfl (Nat.le_of_ble_eq_true rfl) rfl rfl) ?_
  rintro _ w_6 ⟨rfl, hS7⟩
  have hS7 : ST w0 [] _ [⟨some ⟨b, 0, none⟩, 65, [vi a.A, vi a.B, vi a.C, vi a.D], 4⟩, ⟨some ⟨b1, 0, none⟩, 47, [vi 0, vi 0, vi 0, vi 0], 4⟩, ⟨some ⟨b2, 0, none⟩, 47, [vi a.A, vi a.B, vi a.C, vi a.D], 4⟩] [] := hS7
  refine rw_nil ?_
  refine cw_seq ?_
  refine cw_region ?_
  refine sq 16 rfl rfl (Y_loadA (B := some ⟨b2, 0, none⟩) (i := 0) (cs := [vi a.A, vi a.B, vi a.C, vi a.D]) (vs := [vi a.A, vi a.B, vi a.C, vi a.D]) k_ag_47 k_sz_47_4 rfl rfl (hS7.cf (i := 2) rfl) rfl rfl) ?_
  refine ss0 rfl rfl (Ys_store (i := 1) (s := 4) (B := some ⟨b1, 0, none⟩) (T' := 47) (v := .agg #[vi a.A, vi a.B, vi a.C, vi a.D]) (vs := [vi a.A, vi a.B, vi a.C, vi a.D]) (k := 0) (cs' := [vi a.A, vi a.B, vi a.C, vi a.D]) hS7 k_sz_47_4 rfl rfl rfl rfl rfl rfl rfl (Nat.le_of_ble_eq_true rfl) rfl rfl) ?_
  rintro _ w_7 ⟨rfl, hS8⟩
  have hS8 : ST w0 [] _ [⟨some ⟨b, 0, none⟩, 65, [vi a.A, vi a.B, vi a.C, vi a.D], 4⟩, ⟨some ⟨b1, 0, none⟩, 47, [vi a.A, vi a.B, vi a.C, vi a.D], 4⟩, ⟨some ⟨b2, 0, none⟩, 47, [vi a.A, vi a.B, vi a.C, vi a.D], 4⟩] [] := hS8
  refine rw_nil ?_
  refine cw_ret ?_
  obtain rfl := some_inj hF
  exact ret1 Tryd.results57 (v1 := .agg #[vi a.A, vi a.B, vi a.C, vi a.D]) (resAt_cellA (B := some ⟨b1, 0, none⟩) (i := 0) (cs := [vi a.A, vi a.B, vi a.C, vi a.D]) (vs := [vi a.A, vi a.B, vi a.C, vi a.D]) rfl k_ag_47 k_sz_47_4 (hS8.cf (i := 1) rfl) rfl rfl) ⟨rfl, (ST.subR (R' := []) (hS8.sel [] rfl rfl) (fun _ h => by cases h))⟩

theorem c_laws_toDyadic (a : TDyadic)  (w0 : World)  (hS : ST w0 [] w0 [] []) {r_ : TDyadic} (hF : F_laws_toDyadic a = some r_) :
    CV Tryd.prog 34 #[.agg #[vi a.Num.A, vi a.Num.B, vi a.Num.C, vi a.Num.D, vi a.Exp]] w0 (fun v w' => v = .agg #[vi r_.Num.A, vi r_.Num.B, vi r_.Num.C, vi r_.Num.D, vi r_.Exp] ∧ ST w0 [] w' [] []) := by
  unfold F_laws_toDyadic at hF
  refine cv_of_cw 12 Tryd.func34 rfl Tryd.ntmps34 rfl ?_
  refine cw_seq ?_
  refine cw_region ?_
  refine ss 1 rfl rfl (Ys_box (T := 67) (v := .agg #[vi a.Num.A, vi a.Num.B, vi a.Num.C, vi a.Num.D, vi a.Exp]) (cs := [vi a.Num.A, vi a.Num.B, vi a.Num.C, vi a.Num.D, vi a.Exp]) (m := 5) hS rfl rfl rfl rfl) ?_
  rintro _ w_ ⟨b, rfl, hS1⟩
  refine ss 2 rfl rfl (Ys_alloc (T := 49) (cs := [vi 0, vi 0, vi 0, vi 0, vi 0]) (m := 5) hS1 k_zero_49 rfl rfl rfl) ?_
  rintro _ w_1 ⟨b1, rfl, hS2⟩
  have hS2 : ST w0 [] _ [⟨some ⟨b, 0, none⟩, 67, [vi a.Num.A, vi a.Num.B, vi a.Num.C, vi a.Num.D, vi a.Exp], 5⟩, ⟨some ⟨b1, 0, none⟩, 49, [vi 0, vi 0, vi 0, vi 0, vi 0], 5⟩] [] := hS2
  refine rw_nil ?_
  refine cw_seq ?_
  refine cw_region ?_
  refine ss 3 rfl rfl (Ys_alloc (T := 49) (cs := [vi 0, vi 0, vi 0, vi 0, vi 0]) (m := 5) hS2 k_zero_49 rfl rfl rfl) ?_
  rintro _ w_2 ⟨b2, rfl, hS3⟩
  have hS3 : ST w0 [] _ [⟨some ⟨b, 0, none⟩, 67, [vi a.Num.A, vi a.Num.B, vi a.Num.C, vi a.Num.D, vi a.Exp], 5⟩, ⟨some ⟨b1, 0, none⟩, 49, [vi 0, vi 0, vi 0, vi 0, vi 0], 5⟩, ⟨some ⟨b2, 0, none⟩, 49, [vi 0, vi 0, vi 0, vi 0, vi 0], 5⟩] [] := hS3
  refine rw_nil ?_
  refine cw_seq ?_
  refine cw_region ?_
  refine sq 4 rfl rfl (Y_fieldAddr (B := some ⟨b, 0, none⟩) (i := 0) (s := 3) k_fd_67_0_0_65 k_sz_65_4 rfl rfl) ?_
  refine sq 5 rfl rfl (Y_loadA (B := some ⟨b, 0, none⟩) (i := 0) (cs := [vi a.Num.A, vi a.Num.B, vi a.Num.C, vi a.Num.D, vi a.Exp]) (vs := [vi a.Num.A, vi a.Num.B, vi a.Num.C, vi a.Num.D]) k_ag_65 k_sz_65_4 rfl rfl (hS3.cf (i := 0) rfl) rfl rfl) ?_
  obtain ⟨r_1, hc, hF⟩ := bind_inv hF
  refine sc 6 rfl rfl (Yc_func (g := 57) (vs := [.agg #[vi a.Num.A, vi a.Num.B, vi a.Num.C, vi a.Num.D]]) k_call_57 rfl (mc rfl mn) (c_laws_toRing a.Num _  (hS3.inn0 [] rfl) hc)) ?_
  rintro _ w_3 ⟨rfl, hd⟩
  have hS4 := hS3.out00 hd
  have hS4 : ST w0 [] _ [⟨some ⟨b, 0, none⟩, 67, [vi a.Num.A, vi a.Num.B, vi a.Num.C, vi a.Num.D, vi a.Exp], 5⟩, ⟨some ⟨b1, 0, none⟩, 49, [vi 0, vi 0, vi 0, vi 0, vi 0], 5⟩, ⟨some ⟨b2, 0, none⟩, 49, [vi 0, vi 0, vi 0, vi 0, vi 0], 5⟩] [] := hS4
  refine sq 7 rfl rfl (Y_fieldAddr (B := some ⟨b2, 0, none⟩) (i := 0) (s := 3) k_fd_49_0_0_47 k_sz_47_4 rfl rfl) ?_
  refine ss0 rfl rfl (Ys_store (i := 2) (s := 4) (B := some ⟨b2, 0, none⟩) (T' := 49) (v := .agg #[vi r_1.A, vi r_1.B, vi r_1.C, vi r_1.D]) (vs := [vi r_1.A, vi r_1.B, vi r_1.C, vi r_1.D]) (k := 0) (cs' := [vi r_1.A, vi r_1.B, vi r_1.C, vi r_1.D, vi 0]) hS4 k_sz_47_4 rfl rfl rfl rfl rfl rfl rfl (Nat.le_of_ble_eq_true rfl) rfl rfl) ?_
  rintro _ w_4 ⟨rfl, hS5⟩
  have hS5 : ST w0 [] _ [⟨some ⟨b, 0, none⟩, 67, [vi a.Num.A, vi a.Num.B, vi a.Num.C, vi a.Num.D, vi a.Exp], 5⟩, ⟨some ⟨b1, 0, none⟩, 49, [vi 0, vi 0, vi 0, vi 0, vi 0], 5⟩, ⟨some ⟨b2, 0, none⟩, 49, [vi r_1.A, vi r_1.B, vi r_1.C, vi r_1.D, vi 0], 5⟩] [] := hS5
  refine rw_nil ?_
  refine cw_seq ?_
  refine cw_region ?_
  refine sq 8 rfl rfl (Y_fieldAddr (B := some ⟨b, 0, none⟩) (i := 0) (s := 0) k_fd_67_1_4_3 k_sz_3_1 rfl rfl) ?_
  refine sq 9 rfl rfl (Y_load1 (B := some ⟨b, 0, none⟩) (i := 4) (cs := [vi a.Num.A, vi a.Num.B, vi a.Num.C, vi a.Num.D, vi a.Exp]) (v := vi a.Exp) k_sc_3 rfl rfl (hS5.cf (i := 0) rfl) rfl) ?_
  refine sq 10 rfl rfl (Y_fieldAddr (B := some ⟨b2, 0, none⟩) (i := 0) (s := 0) k_fd_49_1_4_3 k_sz_3_1 rfl rfl) ?_
  refine ss0 rfl rfl (Ys_store (i := 2) (s := 1) (B := some ⟨b2, 0, none⟩) (T' := 49) (v := vi a.Exp) (vs := [vi a.Exp]) (k := 4) (cs' := [vi r_1.A, vi r_1.B, vi r_1.C, vi r_1.D, vi a.Exp]) hS5 k_sz_3_1 rfl rfl rfl rfl rfl rfl rfl (Nat.le_of_ble_eq_true rfl) rfl rfl) ?_
  rintro _ w_5 ⟨rfl, hS6⟩
  have hS6 : ST w0 [] _ [⟨some ⟨b, 0, none⟩, 67, [vi a.Num.A, vi a.Num.B, vi a.Num.C, vi a.Num.D, vi a.Exp], 5⟩, ⟨some ⟨b1, 0, none⟩, 49, [vi 0, vi 0, vi 0, vi 0, vi 0], 5⟩, ⟨some ⟨b2, 0, none⟩, 49, [vi r_1.A, vi r_1.B, vi r_1.C, vi r_1.D, vi a.Exp], 5⟩] [] := hS6
  refine rw_nil ?_
  refine cw_seq ?_
  refine cw_region ?_
  refine sq 11 rfl rfl (Y_loadA (B := some ⟨b2, 0, none⟩) (i := 0) (cs := [vi r_1.A, vi r_1.B, vi r_1.C, vi r_1.D, vi a.Exp]) (vs := [vi r_1.A, vi r_1.B, vi r_1.C, vi r_1.D, vi a.Exp]) k_ag_49 k_sz_49_5 rfl rfl (hS6.cf (i := 2) rfl) rfl rfl) ?_
  refine ss0 rfl rfl (Ys_store (i := 1) (s := 5) (B := some ⟨b1, 0, none⟩) (T' := 49) (v := .agg #[vi r_1.A, vi r_1.B, vi r_1.C, vi r_1.D, vi a.Exp]) (vs := [vi r_1.A, vi r_1.B, vi r_1.C, vi r_1.D, vi a.Exp]) (k := 0) (cs' := [vi r_1.A, vi r_1.B, vi r_1.C, vi r_1.D, vi a.Exp]) hS6 k_sz_49_5 rfl rfl rfl rfl rfl rfl rfl (Nat.le_of_ble_eq_true rfl) rfl rfl) ?_
  rintro _ w_6 ⟨rfl, hS7⟩
  have hS7 : ST w0 [] _ [⟨some ⟨b, 0, none⟩, 67, [vi a.Num.A, vi a.Num.B, vi a.Num.C, vi a.Num.D, vi a.Exp], 5⟩, ⟨some ⟨b1, 0, none⟩, 49, [vi r_1.A, vi r_1.B, vi r_1.C, vi r_1.D, vi a.Exp], 5⟩, ⟨some ⟨b2, 0, none⟩, 49, [vi r_1.A, vi r_1.B, vi r_1.C, vi r_1.D, vi a.Exp], 5⟩] [] := hS7
  refine rw_nil ?_
  refine cw_ret ?_
  obtain rfl := some_inj hF
  exact ret1 Tryd.results34 (v1 := .agg #[vi r_1.A, vi r_1.B, vi r_1.C, vi r_1.D, vi a.Exp]) (resAt_cellA (B := some ⟨b1, 0, none⟩) (i := 0) (cs := [vi r_1.A, vi r_1.B, vi r_1.C, vi r_1.D, vi a.Exp]) (vs := [vi r_1.A, vi r_1.B, vi r_1.C, vi r_1.D, vi a.Exp]) rfl k_ag_49 k_sz_49_5 (hS7.cf (i := 1) rfl) rfl rfl) ⟨rfl, (ST.subR (R' := []) (hS7.sel [] rfl rfl) (fun _ h => by cases h))⟩

theorem c_laws_toDyadicS (a : List TDyadic) (B : Option Addr) (c n : Nat) (w0 : World) (hn : a.length = n) (hS : ST w0 [] w0 [] [⟨B, (a.flatMap enc_Dyadic)⟩]) {r_ : List TDyadic} (hF : F_laws_toDyadicS a = some r_) :
    CV Tryd.prog 19 #[.slice B n c] w0 (fun v w' => ∃ (B1 : Option Addr) (c1 : Nat), v = .slice B1 r_.length c1 ∧ ST w0 [] w' [⟨B1, 49, (r_.flatMap enc_Dyadic), c1 * 5⟩] []) := by
  subst hn
  unfold F_laws_toDyadicS at hF
  refine cv_of_cw 23 Tryd.func19 rfl Tryd.ntmps19 rfl ?_
  refine cw_seq ?_
  refine cw_region ?_
  refine sq 2 rfl rfl (Y_assign (v := .slice none 0 0) rfl rfl) ?_
  refine rw_nil ?_
  refine cw_seq ?_
  refine cw_region ?_
  refine sq 5 rfl rfl (Y_move (v := .slice B a.length c) rfl rfl) ?_
  refine sq 6 rfl rfl (Y_len (B := B) (m := a.length) (c := c) k_sl_22_67 rfl rfl) ?_
  obtain ⟨hmk, hF⟩ := chk_inv hF
  refine ss 7 rfl rfl (Ys_make (s := 5) (by' := 40) (nn := a.length) (a := (a.length : Int)) (b := (a.length : Int)) (cs := ((List.replicate a.length (TDyadic.mk (TRing.mk 0 0 0 0) 0)).flatMap enc_Dyadic)) hS k_sl_26_49 k_sz_49_5 k_by_49_40 k_zero_49 rfl rfl rfl rfl hmk.1 rfl (by have := hmk; omega) (by have := hmk; omega) (by omega) (fm_rep (enc := enc_Dyadic) (d := (TDyadic.mk (TRing.mk 0 0 0 0) 0)) rfl _)) ?_
  rintro _ w_ ⟨b, rfl, hS1⟩
  refine sq 3 rfl rfl (Y_assign (v := .slice (some ⟨b, 0, none⟩) a.length a.length) rfl rfl) ?_
  refine rw_nil ?_
  refine cw_seq ?_
  refine cw_seq ?_
  refine cw_region ?_
  refine sq 4 rfl rfl (Y_assign (v := vi 0) rfl rfl) ?_
  refine rw_nil ?_
  obtain ⟨hN, hF⟩ := chk_inv hF
  obtain ⟨z, hz, hF1⟩ := bind_inv hF
  refine cw_block ?_
  refine cw_loop (fun k f w => ∃ (i1 : Nat) (out : List TDyadic), FF f [(0, .slice B a.length c), (3, .slice (some ⟨b, 0, none⟩) a.length a.length), (4, vi (i1 : Int))] ∧ out.length = a.length ∧ ST w0 [] w [⟨some ⟨b, 0, none⟩, 49, (out.flatMap enc_Dyadic), a.length * 5⟩] [⟨B, (a.flatMap enc_Dyadic)⟩] ∧ i1 + k = a.length ∧ forN (F_laws_toDyadicS_l1 a) k i1 out = some z) a.length ⟨0, (List.replicate a.length (TDyadic.mk (TRing.mk 0 0 0 0) 0)), (FF.cons rfl (FF.cons rfl (FF.cons rfl FF.nil))), List.length_replicate, (hS1.sel [0] rfl rfl), Nat.zero_add _, hz⟩ ?_
  rintro k_ f w ⟨i1, out, hf, hl, hS2, hik, hL⟩
  refine cw_seq ?_
  refine cw_seq ?_
  refine cw_region ?_
  refine sq 8 rfl rfl (Y_move (v := vi (i1 : Int)) rfl (hf.get 4 2 rfl)) ?_
  refine sq 9 rfl rfl (Y_move (v := .slice B a.length c) rfl (hf.get 0 0 rfl)) ?_
  refine sq 10 rfl rfl (Y_len (B := B) (m := a.length) (c := c) k_sl_22_67 rfl rfl) ?_
  refine sq 11 rfl rfl (Y_lt (k := .i64) (a := (i1 : Int)) (b := (a.length : Int)) rfl rfl rfl) ?_
  refine rw_nil ?_
  refine cw_cond (b := (decide ((i1 : Int) < (a.length : Int)))) rfl (fun hlt => ?_) (fun hlt => ?_)
  · skip
    have hlt1 : i1 < a.length := by have h := of_decide_eq_true hlt; omega
    obtain ⟨k_1, rfl⟩ : ∃ k2, k_ = k2 + 1 := ⟨k_ - 1, by omega⟩
    obtain ⟨y, hb, hL1⟩ := forN_go hL
    unfold F_laws_toDyadicS_l1 at hb
    refine cw_skip ?_
    refine cw_seq ?_
    refine cw_block ?_
    refine cw_region ?_
    refine sq 14 rfl rfl (Y_move (v := .slice (some ⟨b, 0, none⟩) a.length a.length) rfl (hf.get 3 1 rfl)) ?_
    refine sq 15 rfl rfl (Y_move (v := vi (i1 : Int)) rfl (hf.get 4 2 rfl)) ?_
    refine sq 16 rfl rfl (Y_move (v := .slice B a.length c) rfl (hf.get 0 0 rfl)) ?_
    refine sq 17 rfl rfl (Y_move (v := vi (i1 : Int)) rfl (hf.get 4 2 rfl)) ?_
    obtain ⟨x, hx, hb⟩ := bind_inv hb
    refine sq 18 rfl rfl (Y_index (B := B) (m := a.length) (c := c) (k := .i64) (i := (i1 : Int)) k_sl_22_67 k_sz_67_5 rfl rfl rfl (gi_isSome enc_Dyadic_len rfl (hS2.rf (i := 0) rfl) hx) (getI_nn hx) (getI_ltI hx rfl)) ?_
    refine sq 19 rfl rfl (Y_loadA (B := B) (i := (i1 : Int).toNat * 5) (cs := (a.flatMap enc_Dyadic)) (vs := [vi x.Num.A, vi x.Num.B, vi x.Num.C, vi x.Num.D, vi x.Exp]) k_ag_67 k_sz_67_5 rfl rfl (hS2.rf (i := 0) rfl) (enc_Dyadic_len x) (gi_seg enc_Dyadic_len hx)) ?_
    obtain ⟨r_1, hc, hb⟩ := bind_inv hb
    refine sc 20 rfl rfl (Yc_func (g := 34) (vs := [.agg #[vi x.Num.A, vi x.Num.B, vi x.Num.C, vi x.Num.D, vi x.Exp]]) k_call_34 rfl (mc rfl mn) (c_laws_toDyadic x _  (hS2.inn0 [] rfl) hc)) ?_
    rintro _ w_1 ⟨rfl, hd⟩
    have hS3 := hS2.out00 hd
    obtain ⟨x1, hx1, hb⟩ := bind_inv hb
    refine sq 21 rfl rfl (Y_index (B := some ⟨b, 0, none⟩) (m := a.length) (c := a.length) (k := .i64) (i := (i1 : Int)) k_sl_26_49 k_sz_49_5 rfl rfl rfl (gi_isSome enc_Dyadic_len rfl (hS3.cf (i := 0) rfl) hx1) (getI_nn hx1) (getI_ltI hx1 hl)) ?_
    refine ss0 rfl rfl (Ys_store (i := 0) (s := 5) (B := some ⟨b, 0, none⟩) (T' := 49) (v := .agg #[vi r_1.Num.A, vi r_1.Num.B, vi r_1.Num.C, vi r_1.Num.D, vi r_1.Exp]) (vs := [vi r_1.Num.A, vi r_1.Num.B, vi r_1.Num.C, vi r_1.Num.D, vi r_1.Exp]) (k := (i1 : Int).toNat * 5) (cs' := ((out.set (i1 : Int).toNat r_1).flatMap enc_Dyadic)) hS3 k_sz_49_5 rfl rfl rfl rfl rfl rfl rfl (gi_fit0 enc_Dyadic_len hx1) (gi_set enc_Dyadic_len hx1 r_1 rfl) rfl) ?_
    rintro _ w_2 ⟨rfl, hS4⟩
    refine rw_nil ?_
    refine cw_region ?_
    refine sq 12 rfl rfl (Y_move (v := vi (i1 : Int)) rfl (hf.get 4 2 rfl)) ?_
    refine sq 13 rfl rfl (Y_add (k := .i64) (a := (i1 : Int)) (b := 1) rfl rfl rfl) ?_
    refine sq 4 rfl rfl (Y_assign (v := vi (i64.wrap ((i1 : Int) + 1))) rfl rfl) ?_
    refine rw_nil ?_
    obtain rfl := some_inj hb
    exact ⟨k_1, Nat.lt_succ_self _, i1 + 1, (out.set (i1 : Int).toNat r_1), (FF.cons (hf.get 0 0 rfl) (FF.cons (hf.get 3 1 rfl) (FF.cons (congrArg (Value.int .i64) (wr_succ hlt1 hN)) FF.nil))), (set_len _ _ _ hl), (hS4.sel [0] rfl rfl), (by omega), hL1⟩
  · skip
    obtain rfl : k_ = 0 := by have h := of_decide_eq_false hlt; omega
    refine cw_exit rfl ?_
    obtain rfl := some_inj hL
    refine cw_seq ?_
    refine cw_region ?_
    refine sq 22 rfl rfl (Y_move (v := .slice (some ⟨b, 0, none⟩) a.length a.length) rfl (hf.get 3 1 rfl)) ?_
    refine sq 2 rfl rfl (Y_assign (v := .slice (some ⟨b, 0, none⟩) a.length a.length) rfl rfl) ?_
    refine rw_nil ?_
    refine cw_ret ?_
    obtain rfl := some_inj hF1
    exact ret1 Tryd.results19 (v1 := .slice (some ⟨b, 0, none⟩) a.length a.length) (resAt_tmp rfl) ⟨some ⟨b, 0, none⟩, a.length, (sl_eqv hl), (ST.subR (R' := []) (hS2.sel [0] rfl rfl) (fun _ h => by cases h))⟩

theorem c_laws_toMatrix (a : TMatrix) (B : Option Addr) (c n : Nat) (w0 : World) (hn : a.Cells.length = n) (hS : ST w0 [] w0 [] [⟨B, (a.Cells.flatMap enc_Dyadic)⟩]) {r_ : TMatrix} (hF : F_laws_toMatrix a = some r_) :
    CV Tryd.prog 7 #[.agg #[vi a.Rows, vi a.Cols, .slice B n c]] w0 (fun v w' => ∃ (B1 : Option Addr) (c1 : Nat), v = .agg #[vi r_.Rows, vi r_.Cols, .slice B1 r_.Cells.length c1] ∧ ST w0 [] w' [⟨B1, 49, (r_.Cells.flatMap enc_Dyadic), c1 * 5⟩] []) := by
  subst hn
  unfold F_laws_toMatrix at hF
  refine cv_of_cw 15 Tryd.func7 rfl Tryd.ntmps7 rfl ?_
  refine cw_seq ?_
  refine cw_region ?_
  refine ss 1 rfl rfl (Ys_box (T := 24) (v := .agg #[vi a.Rows, vi a.Cols, .slice B a.Cells.length c]) (cs := [vi a.Rows, vi a.Cols, .slice B a.Cells.length c]) (m := 3) hS rfl rfl rfl rfl) ?_
  rintro _ w_ ⟨b, rfl, hS1⟩
  refine ss 2 rfl rfl (Ys_alloc (T := 32) (cs := [vi 0, vi 0, .slice none 0 0]) (m := 3) hS1 k_zero_32 rfl rfl rfl) ?_
  rintro _ w_1 ⟨b1, rfl, hS2⟩
  have hS2 : ST w0 [] _ [⟨some ⟨b, 0, none⟩, 24, [vi a.Rows, vi a.Cols, .slice B a.Cells.length c], 3⟩, ⟨some ⟨b1, 0, none⟩, 32, [vi 0, vi 0, .slice none 0 0], 3⟩] [⟨B, (a.Cells.flatMap enc_Dyadic)⟩] := hS2
  refine rw_nil ?_
  refine cw_seq ?_
  refine cw_region ?_
  refine ss 3 rfl rfl (Ys_alloc (T := 32) (cs := [vi 0, vi 0, .slice none 0 0]) (m := 3) hS2 k_zero_32 rfl rfl rfl) ?_
  rintro _ w_2 ⟨b2, rfl, hS3⟩
  have hS3 : ST w0 [] _ [⟨some ⟨b, 0, none⟩, 24, [vi a.Rows, vi a.Cols, .slice B a.Cells.length c], 3⟩, ⟨some ⟨b1, 0, none⟩, 32, [vi 0, vi 0, .slice none 0 0], 3⟩, ⟨some ⟨b2, 0, none⟩, 32, [vi 0, vi 0, .slice none 0 0], 3⟩] [⟨B, (a.Cells.flatMap enc_Dyadic)⟩] := hS3
  refine rw_nil ?_
  refine cw_seq ?_
  refine cw_region ?_
  refine sq 4 rfl rfl (Y_fieldAddr (B := some ⟨b, 0, none⟩) (i := 0) (s := 0) k_fd_24_0_0_3 k_sz_3_1 rfl rfl) ?_
  refine sq 5 rfl rfl (Y_load1 (B := some ⟨b, 0, none⟩) (i := 0) (cs := [vi a.Rows, vi a.Cols, .slice B a.Cells.length c]) (v := vi a.Rows) k_sc_3 rfl rfl (hS3.cf (i := 0) rfl) rfl) ?_
  refine sq 6 rfl rfl (Y_fieldAddr (B := some ⟨b2, 0, none⟩) (i := 0) (s := 0) k_fd_32_0_0_3 k_sz_3_1 rfl rfl) ?_
  refine ss0 rfl rfl (Ys_store (i := 2) (s := 1) (B := some ⟨b2, 0, none⟩) (T' := 32) (v := vi a.Rows) (vs := [vi a.Rows]) (k := 0) (cs' := [vi a.Rows, vi 0, .slice none 0 0]) hS3 k_sz_3_1 rfl rfl rfl rfl rfl rfl rfl (Nat.le_of_ble_eq_true rfl) rfl rfl) ?_
  rintro _ w_3 ⟨rfl, hS4⟩
  have hS4 : ST w0 [] _ [⟨some ⟨b, 0, none⟩, 24, [vi a.Rows, vi a.Cols, .slice B a.Cells.length c], 3⟩, ⟨some ⟨b1, 0, none⟩, 32, [vi 0, vi 0, .slice none 0 0], 3⟩, ⟨some ⟨b2, 0, none⟩, 32, [vi a.Rows, vi 0, .slice none 0 0], 3⟩] [⟨B, (a.Cells.flatMap enc_Dyadic)⟩] := hS4
  refine rw_nil ?_
  refine cw_seq ?_
  refine cw_region ?_
  refine sq 7 rfl rfl (Y_fieldAddr (B := some ⟨b, 0, none⟩) (i := 0) (s := 0) k_fd_24_1_1_3 k_sz_3_1 rfl rfl) ?_
  refine sq 8 rfl rfl (Y_load1 (B := some ⟨b, 0, none⟩) (i := 1) (cs := [vi a.Rows, vi a.Cols, .slice B a.Cells.length c]) (v := vi a.Cols) k_sc_3 rfl rfl (hS4.cf (i := 0) rfl) rfl) ?_
  refine sq 9 rfl rfl (Y_fieldAddr (B := some ⟨b2, 0, none⟩) (i := 0) (s := 0) k_fd_32_1_1_3 k_sz_3_1 rfl rfl) ?_
  refine ss0 rfl rfl (Ys_store (i := 2) (s := 1) (B := some ⟨b2, 0, none⟩) (T' := 32) (v := vi a.Cols) (vs := [vi a.Cols]) (k := 1) (cs' := [vi a.Rows, vi a.Cols, .slice none 0 0]) hS4 k_sz_3_1 rfl rfl rfl rfl rfl rfl rfl (Nat.le_of_ble_eq_true rfl) rfl rfl) ?_
  rintro _ w_4 ⟨rfl, hS5⟩
  have hS5 : ST w0 [] _ [⟨some ⟨b, 0, none⟩, 24, [vi a.Rows, vi a.Cols, .slice B a.Cells.length c], 3⟩, ⟨some ⟨b1, 0, none⟩, 32, [vi 0, vi 0, .slice none 0 0], 3⟩, ⟨some ⟨b2, 0, none⟩, 32, [vi a.Rows, vi a.Cols, .slice none 0 0], 3⟩] [⟨B, (a.Cells.flatMap enc_Dyadic)⟩] := hS5
  refine rw_nil ?_
  refine cw_seq ?_
  refine cw_region ?_
  refine sq 10 rfl rfl (Y_fieldAddr (B := some ⟨b, 0, none⟩) (i := 0) (s := 0) k_fd_24_2_2_22 k_sz_22_1 rfl rfl) ?_
  refine sq 11 rfl rfl (Y_load1 (B := some ⟨b, 0, none⟩) (i := 2) (cs := [vi a.Rows, vi a.Cols, .slice B a.Cells.length c]) (v := .slice B a.Cells.length c) k_sc_22 rfl rfl (hS5.cf (i := 0) rfl) rfl) ?_
  obtain ⟨r_1, hc, hF⟩ := bind_inv hF
  refine sc 12 rfl rfl (Yc_func (g := 19) (vs := [.slice B a.Cells.length c]) k_call_19 rfl (mc rfl mn) (c_laws_toDyadicS a.Cells B c a.Cells.length _ rfl (hS5.inn0 [(true, 0)] rfl) hc)) ?_
  rintro _ w_5 ⟨B2, c2, rfl, hd⟩
  have hS6 := hS5.out0 hd
  have hS6 : ST w0 [] _ [⟨some ⟨b, 0, none⟩, 24, [vi a.Rows, vi a.Cols, .slice B a.Cells.length c], 3⟩, ⟨some ⟨b1, 0, none⟩, 32, [vi 0, vi 0, .slice none 0 0], 3⟩, ⟨some ⟨b2, 0, none⟩, 32, [vi a.Rows, vi a.Cols, .slice none 0 0], 3⟩, ⟨B2, 49, (r_1.flatMap enc_Dyadic), c2 * 5⟩] [⟨B, (a.Cells.flatMap enc_Dyadic)⟩] := hS6
  refine sq 13 rfl rfl (Y_fieldAddr (B := some ⟨b2, 0, none⟩) (i := 0) (s := 0) k_fd_32_2_2_26 k_sz_26_1 rfl rfl) ?_
  refine ss0 rfl rfl (Ys_store (i := 2) (s := 1) (B := some ⟨b2, 0, none⟩) (T' := 32) (v := .slice B2 r_1.length c2) (vs := [.slice B2 r_1.length c2]) (k := 2) (cs' := [vi a.Rows, vi a.Cols, .slice B2 r_1.length c2]) hS6 k_sz_26_1 rfl rfl rfl rfl rfl rfl rfl (Nat.le_of_ble_eq_true rfl) rfl rfl) ?_
  rintro _ w_6 ⟨rfl, hS7⟩
  have hS7 : ST w0 [] _ [⟨some ⟨b, 0, none⟩, 24, [vi a.Rows, vi a.Cols, .slice B a.Cells.length c], 3⟩, ⟨some ⟨b1, 0, none⟩, 32, [vi 0, vi 0, .slice none 0 0], 3⟩, ⟨some ⟨b2, 0, none⟩, 32, [vi a.Rows, vi a.Cols, .slice B2 r_1.length c2], 3⟩, ⟨B2, 49, (r_1.flatMap enc_Dyadic), c2 * 5⟩] [⟨B, (a.Cells.flatMap enc_Dyadic)⟩] := hS7
  refine rw_nil ?_
  refine cw_seq ?_
  refine cw_region ?_
  refine sq 14 rfl rfl (Y_loadA (B := some ⟨b2, 0, none⟩) (i := 0) (cs := [vi a.Rows, vi a.Cols, .slice B2 r_1.length c2]) (vs := [vi a.Rows, vi a.Cols, .slice B2 r_1.length c2]) k_ag_32 k_sz_32_3 rfl rfl (hS7.cf (i := 2) rfl) rfl rfl) ?_
  refine ss0 rfl rfl (Ys_store (i := 1) (s := 3) (B := some ⟨b1, 0, none⟩) (T' := 32) (v := .agg #[vi a.Rows, vi a.Cols, .slice B2 r_1.length c2]) (vs := [vi a.Rows, vi a.Cols, .slice B2 r_1.length c2]) (k := 0) (cs' := [vi a.Rows, vi a.Cols, .slice B2 r_1.length c2]) hS7 k_sz_32_3 rfl rfl rfl rfl rfl rfl rfl (Nat.le_of_ble_eq_true rfl) rfl rfl) ?_
  rintro _ w_7 ⟨rfl, hS8⟩
  have hS8 : ST w0 [] _ [⟨some ⟨b, 0, none⟩, 24, [vi a.Rows, vi a.Cols, .slice B a.Cells.length c], 3⟩, ⟨some ⟨b1, 0, none⟩, 32, [vi a.Rows, vi a.Cols, .slice B2 r_1.length c2], 3⟩, ⟨some ⟨b2, 0, none⟩, 32, [vi a.Rows, vi a.Cols, .slice B2 r_1.length c2], 3⟩, ⟨B2, 49, (r_1.flatMap enc_Dyadic), c2 * 5⟩] [⟨B, (a.Cells.flatMap enc_Dyadic)⟩] := hS8
  refine rw_nil ?_
  refine cw_ret ?_
  obtain rfl := some_inj hF
  exact ret1 Tryd.results7 (v1 := .agg #[vi a.Rows, vi a.Cols, .slice B2 r_1.length c2]) (resAt_cellA (B := some ⟨b1, 0, none⟩) (i := 0) (cs := [vi a.Rows, vi a.Cols, .slice B2 r_1.length c2]) (vs := [vi a.Rows, vi a.Cols, .slice B2 r_1.length c2]) rfl k_ag_32 k_sz_32_3 (hS8.cf (i := 1) rfl) rfl rfl) ⟨B2, c2, rfl, (ST.subR (R' := []) (hS8.sel [3] rfl rfl) (fun _ h => by cases h))⟩

theorem c_laws_eqRing (a : TRing) (b : TRing)  (w0 : World)  (hS : ST w0 [] w0 [] []) {r_ : Bool} (hF : F_laws_eqRing a b = some r_) :
    CV Tryd.prog 78 #[.agg #[vi a.A, vi a.B, vi a.C, vi a.D], .agg #[vi b.A, vi b.B, vi b.C, vi b.D]] w0 (fun v w' => v = .bool r_ ∧ ST w0 [] w' [] []) := by
  unfold F_laws_eqRing at hF
  refine cv_of_cw 25 Tryd.func78 rfl Tryd.ntmps78 rfl ?_
  refine cw_seq ?_
  refine cw_region ?_
  refine ss 2 rfl rfl (Ys_box (T := 47) (v := .agg #[vi a.A, vi a.B, vi a.C, vi a.D]) (cs := [vi a.A, vi a.B, vi a.C, vi a.D]) (m := 4) hS rfl rfl rfl rfl) ?_
  rintro _ w_ ⟨b1, rfl, hS1⟩
  refine ss 3 rfl rfl (Ys_box (T := 47) (v := .agg #[vi b.A, vi b.B, vi b.C, vi b.D]) (cs := [vi b.A, vi b.B, vi b.C, vi b.D]) (m := 4) hS1 rfl rfl rfl rfl) ?_
  rintro _ w_1 ⟨b2, rfl, hS2⟩
  have hS2 : ST w0 [] _ [⟨some ⟨b1, 0, none⟩, 47, [vi a.A, vi a.B, vi a.C, vi a.D], 4⟩, ⟨some ⟨b2, 0, none⟩, 47, [vi b.A, vi b.B, vi b.C, vi b.D], 4⟩] [] := hS2
  refine sq 4 rfl rfl (Y_assign (v := .bool false) rfl rfl) ?_
  refine rw_nil ?_
  refine cw_seq ?_
  refine cw_seq ?_
  refine cw_region ?_
  refine sq 5 rfl rfl (Y_fieldAddr (B := some ⟨b1, 0, none⟩) (i := 0) (s := 0) k_fd_47_0_0_3 k_sz_3_1 rfl rfl) ?_
  refine sq 6 rfl rfl (Y_load1 (B := some ⟨b1, 0, none⟩) (i := 0) (cs := [vi a.A, vi a.B, vi a.C, vi a.D]) (v := vi a.A) k_sc_3 rfl rfl (hS2.cf (i := 0) rfl) rfl) ?_
  refine sq 7 rfl rfl (Y_fieldAddr (B := some ⟨b2, 0, none⟩) (i := 0) (s := 0) k_fd_47_0_0_3 k_sz_3_1 rfl rfl) ?_
  refine sq 8 rfl rfl (Y_load1 (B := some ⟨b2, 0, none⟩) (i := 0) (cs := [vi b.A, vi b.B, vi b.C, vi b.D]) (v := vi b.A) k_sc_3 rfl rfl (hS2.cf (i := 1) rfl) rfl) ?_
  refine sq 9 rfl rfl (Y_ne (k := .i64) (a := a.A) (b := b.A) rfl rfl rfl) ?_
  refine rw_nil ?_
  refine cw_cond (b := (a.A != b.A)) rfl (fun hb => ?_) (fun hb => ?_)
  · skip
    have hF1 := ct hF hb
    refine cw_seq ?_
    refine cw_region ?_
    refine sq 4 rfl rfl (Y_assign (v := .bool false) rfl rfl) ?_
    refine rw_nil ?_
    refine cw_ret ?_
    obtain rfl := some_inj hF1
    exact ret1 Tryd.results78 (v1 := .bool false) (resAt_tmp rfl) ⟨rfl, (ST.subR (R' := []) (hS2.sel [] rfl rfl) (fun _ h => by cases h))⟩
  · skip
    have hF2 := cf' hF hb
    refine cw_skip ?_
    refine cw_seq ?_
    refine cw_seq ?_
    refine cw_region ?_
    refine sq 10 rfl rfl (Y_fieldAddr (B := some ⟨b1, 0, none⟩) (i := 0) (s := 0) k_fd_47_1_1_3 k_sz_3_1 rfl rfl) ?_
    refine sq 11 rfl rfl (Y_load1 (B := some ⟨b1, 0, none⟩) (i := 1) (cs := [vi a.A, vi a.B, vi a.C, vi a.D]) (v := vi a.B) k_sc_3 rfl rfl (hS2.cf (i := 0) rfl) rfl) ?_
    refine sq 12 rfl rfl (Y_fieldAddr (B := some ⟨b2, 0, none⟩) (i := 0) (s := 0) k_fd_47_1_1_3 k_sz_3_1 rfl rfl) ?_
    refine sq 13 rfl rfl (Y_load1 (B := some ⟨b2, 0, none⟩) (i := 1) (cs := [vi b.A, vi b.B, vi b.C, vi b.D]) (v := vi b.B) k_sc_3 rfl rfl (hS2.cf (i := 1) rfl) rfl) ?_
    refine sq 14 rfl rfl (Y_ne (k := .i64) (a := a.B) (b := b.B) rfl rfl rfl) ?_
    refine rw_nil ?_
    refine cw_cond (b := (a.B != b.B)) rfl (fun hb1 => ?_) (fun hb1 => ?_)
    · skip
      have hF3 := ct hF2 hb1
      refine cw_seq ?_
      refine cw_region ?_
      refine sq 4 rfl rfl (Y_assign (v := .bool false) rfl rfl) ?_
      refine rw_nil ?_
      refine cw_ret ?_
      obtain rfl := some_inj hF3
      exact ret1 Tryd.results78 (v1 := .bool false) (resAt_tmp rfl) ⟨rfl, (ST.subR (R' := []) (hS2.sel [] rfl rfl) (fun _ h => by cases h))⟩
    · skip
      have hF4 := cf' hF2 hb1
      refine cw_skip ?_
      refine cw_seq ?_
      refine cw_seq ?_
      refine cw_region ?_
      refine sq 15 rfl rfl (Y_fieldAddr (B := some ⟨b1, 0, none⟩) (i := 0) (s := 0) k_fd_47_2_2_3 k_sz_3_1 rfl rfl) ?_
      refine sq 16 rfl rfl (Y_load1 (B := some ⟨b1, 0, none⟩) (i := 2) (cs := [vi a.A, vi a.B, vi a.C, vi a.D]) (v := vi a.C) k_sc_3 rfl rfl (hS2.cf (i := 0) rfl) rfl) ?_
      refine sq 17 rfl rfl (Y_fieldAddr (B := some ⟨b2, 0, none⟩) (i := 0) (s := 0) k_fd_47_2_2_3 k_sz_3_1 rfl rfl) ?_
      refine sq 18 rfl rfl (Y_load1 (B := some ⟨b2, 0, none⟩) (i := 2) (cs := [vi b.A, vi b.B, vi b.C, vi b.D]) (v := vi b.C) k_sc_3 rfl rfl (hS2.cf (i := 1) rfl) rfl) ?_
      refine sq 19 rfl rfl (Y_ne (k := .i64) (a := a.C) (b := b.C) rfl rfl rfl) ?_
      refine rw_nil ?_
      refine cw_cond (b := (a.C != b.C)) rfl (fun hb2 => ?_) (fun hb2 => ?_)
      · skip
        have hF5 := ct hF4 hb2
        refine cw_seq ?_
        refine cw_region ?_
        refine sq 4 rfl rfl (Y_assign (v := .bool false) rfl rfl) ?_
        refine rw_nil ?_
        refine cw_ret ?_
        obtain rfl := some_inj hF5
        exact ret1 Tryd.results78 (v1 := .bool false) (resAt_tmp rfl) ⟨rfl, (ST.subR (R' := []) (hS2.sel [] rfl rfl) (fun _ h => by cases h))⟩
      · skip
        have hF6 := cf' hF4 hb2
        refine cw_skip ?_
        refine cw_seq ?_
        refine cw_seq ?_
        refine cw_region ?_
        refine sq 20 rfl rfl (Y_fieldAddr (B := some ⟨b1, 0, none⟩) (i := 0) (s := 0) k_fd_47_3_3_3 k_sz_3_1 rfl rfl) ?_
        refine sq 21 rfl rfl (Y_load1 (B := some ⟨b1, 0, none⟩) (i := 3) (cs := [vi a.A, vi a.B, vi a.C, vi a.D]) (v := vi a.D) k_sc_3 rfl rfl (hS2.cf (i := 0) rfl) rfl) ?_
        refine sq 22 rfl rfl (Y_fieldAddr (B := some ⟨b2, 0, none⟩) (i := 0) (s := 0) k_fd_47_3_3_3 k_sz_3_1 rfl rfl) ?_
        refine sq 23 rfl rfl (Y_load1 (B := some ⟨b2, 0, none⟩) (i := 3) (cs := [vi b.A, vi b.B, vi b.C, vi b.D]) (v := vi b.D) k_sc_3 rfl rfl (hS2.cf (i := 1) rfl) rfl) ?_
        refine sq 24 rfl rfl (Y_ne (k := .i64) (a := a.D) (b := b.D) rfl rfl rfl) ?_
        refine rw_nil ?_
        refine cw_cond (b := (a.D != b.D)) rfl (fun hb3 => ?_) (fun hb3 => ?_)
        · skip
          have hF7 := ct hF6 hb3
          refine cw_seq ?_
          refine cw_region ?_
          refine sq 4 rfl rfl (Y_assign (v := .bool false) rfl rfl) ?_
          refine rw_nil ?_
          refine cw_ret ?_
          obtain rfl := some_inj hF7
          exact ret1 Tryd.results78 (v1 := .bool false) (resAt_tmp rfl) ⟨rfl, (ST.subR (R' := []) (hS2.sel [] rfl rfl) (fun _ h => by cases h))⟩
        · skip
          have hF8 := cf' hF6 hb3
          refine cw_skip ?_
          refine cw_seq ?_
          refine cw_region ?_
          refine sq 4 rfl rfl (Y_assign (v := .bool true) rfl rfl) ?_
          refine rw_nil ?_
          refine cw_ret ?_
          obtain rfl := some_inj hF8
          exact ret1 Tryd.results78 (v1 := .bool true) (resAt_tmp rfl) ⟨rfl, (ST.subR (R' := []) (hS2.sel [] rfl rfl) (fun _ h => by cases h))⟩

theorem c_laws_eqDyadic (a : TDyadic) (b : TDyadic)  (w0 : World)  (hS : ST w0 [] w0 [] []) {r_ : Bool} (hF : F_laws_eqDyadic a b = some r_) :
    CV Tryd.prog 45 #[.agg #[vi a.Num.A, vi a.Num.B, vi a.Num.C, vi a.Num.D, vi a.Exp], .agg #[vi b.Num.A, vi b.Num.B, vi b.Num.C, vi b.Num.D, vi b.Exp]] w0 (fun v w' => v = .bool r_ ∧ ST w0 [] w' [] []) := by
  unfold F_laws_eqDyadic at hF
  refine cv_of_cw 16 Tryd.func45 rfl Tryd.ntmps45 rfl ?_
  refine cw_seq ?_
  refine cw_region ?_
  refine ss 2 rfl rfl (Ys_box (T := 49) (v := .agg #[vi a.Num.A, vi a.Num.B, vi a.Num.C, vi a.Num.D, vi a.Exp]) (cs := [vi a.Num.A, vi a.Num.B, vi a.Num.C, vi a.Num.D, vi a.Exp]) (m := 5) hS rfl rfl rfl rfl) ?_
  rintro _ w_ ⟨b1, rfl, hS1⟩
  refine ss 3 rfl rfl (Ys_box (T := 49) (v := .agg #[vi b.Num.A, vi b.Num.B, vi b.Num.C, vi b.Num.D, vi b.Exp]) (cs := [vi b.Num.A, vi b.Num.B, vi b.Num.C, vi b.Num.D, vi b.Exp]) (m := 5) hS1 rfl rfl rfl rfl) ?_
  rintro _ w_1 ⟨b2, rfl, hS2⟩
  have hS2 : ST w0 [] _ [⟨some ⟨b1, 0, none⟩, 49, [vi a.Num.A, vi a.Num.B, vi a.Num.C, vi a.Num.D, vi a.Exp], 5⟩, ⟨some ⟨b2, 0, none⟩, 49, [vi b.Num.A, vi b.Num.B, vi b.Num.C, vi b.Num.D, vi b.Exp], 5⟩] [] := hS2
  refine sq 4 rfl rfl (Y_assign (v := .bool false) rfl rfl) ?_
  refine rw_nil ?_
  refine cw_seq ?_
  refine cw_seq ?_
  refine cw_region ?_
  refine sq 5 rfl rfl (Y_fieldAddr (B := some ⟨b1, 0, none⟩) (i := 0) (s := 3) k_fd_49_0_0_47 k_sz_47_4 rfl rfl) ?_
  refine sq 6 rfl rfl (Y_loadA (B := some ⟨b1, 0, none⟩) (i := 0) (cs := [vi a.Num.A, vi a.Num.B, vi a.Num.C, vi a.Num.D, vi a.Exp]) (vs := [vi a.Num.A, vi a.Num.B, vi a.Num.C, vi a.Num.D]) k_ag_47 k_sz_47_4 rfl rfl (hS2.cf (i := 0) rfl) rfl rfl) ?_
  refine sq 7 rfl rfl (Y_fieldAddr (B := some ⟨b2, 0, none⟩) (i := 0) (s := 3) k_fd_49_0_0_47 k_sz_47_4 rfl rfl) ?_
  refine sq 8 rfl rfl (Y_loadA (B := some ⟨b2, 0, none⟩) (i := 0) (cs := [vi b.Num.A, vi b.Num.B, vi b.Num.C, vi b.Num.D, vi b.Exp]) (vs := [vi b.Num.A, vi b.Num.B, vi b.Num.C, vi b.Num.D]) k_ag_47 k_sz_47_4 rfl rfl (hS2.cf (i := 1) rfl) rfl rfl) ?_
  obtain ⟨r_1, hc, hF⟩ := bind_inv hF
  refine sc 9 rfl rfl (Yc_func (g := 78) (vs := [.agg #[vi a.Num.A, vi a.Num.B, vi a.Num.C, vi a.Num.D], .agg #[vi b.Num.A, vi b.Num.B, vi b.Num.C, vi b.Num.D]]) k_call_78 rfl (mc rfl (mc rfl mn)) (c_laws_eqRing a.Num b.Num _  (hS2.inn0 [] rfl) hc)) ?_
  rintro _ w_2 ⟨rfl, hd⟩
  have hS3 := hS2.out00 hd
  have hS3 : ST w0 [] _ [⟨some ⟨b1, 0, none⟩, 49, [vi a.Num.A, vi a.Num.B, vi a.Num.C, vi a.Num.D, vi a.Exp], 5⟩, ⟨some ⟨b2, 0, none⟩, 49, [vi b.Num.A, vi b.Num.B, vi b.Num.C, vi b.Num.D, vi b.Exp], 5⟩] [] := hS3
  refine sq 10 rfl rfl (Y_not (p := r_1) rfl rfl) ?_
  refine rw_nil ?_
  refine cw_cond (b := (!r_1)) rfl (fun hb => ?_) (fun hb => ?_)
  · skip
    have hF1 := ct hF hb
    refine cw_seq ?_
    refine cw_region ?_
    refine sq 4 rfl rfl (Y_assign (v := .bool false) rfl rfl) ?_
    refine rw_nil ?_
    refine cw_ret ?_
    obtain rfl := some_inj hF1
    exact ret1 Tryd.results45 (v1 := .bool false) (resAt_tmp rfl) ⟨rfl, (ST.subR (R' := []) (hS3.sel [] rfl rfl) (fun _ h => by cases h))⟩
  · skip
    have hF2 := cf' hF hb
    refine cw_skip ?_
    refine cw_seq ?_
    refine cw_seq ?_
    refine cw_region ?_
    refine sq 11 rfl rfl (Y_fieldAddr (B := some ⟨b1, 0, none⟩) (i := 0) (s := 0) k_fd_49_1_4_3 k_sz_3_1 rfl rfl) ?_
    refine sq 12 rfl rfl (Y_load1 (B := some ⟨b1, 0, none⟩) (i := 4) (cs := [vi a.Num.A, vi a.Num.B, vi a.Num.C, vi a.Num.D, vi a.Exp]) (v := vi a.Exp) k_sc_3 rfl rfl (hS3.cf (i := 0) rfl) rfl) ?_
    refine sq 13 rfl rfl (Y_fieldAddr (B := some ⟨b2, 0, none⟩) (i := 0) (s := 0) k_fd_49_1_4_3 k_sz_3_1 rfl rfl) ?_
    refine sq 14 rfl rfl (Y_load1 (B := some ⟨b2, 0, none⟩) (i := 4) (cs := [vi b.Num.A, vi b.Num.B, vi b.Num.C, vi b.Num.D, vi b.Exp]) (v := vi b.Exp) k_sc_3 rfl rfl (hS3.cf (i := 1) rfl) rfl) ?_
    refine sq 15 rfl rfl (Y_ne (k := .i64) (a := a.Exp) (b := b.Exp) rfl rfl rfl) ?_
    refine rw_nil ?_
    refine cw_cond (b := (a.Exp != b.Exp)) rfl (fun hb1 => ?_) (fun hb1 => ?_)
    · skip
      have hF3 := ct hF2 hb1
      refine cw_seq ?_
      refine cw_region ?_
      refine sq 4 rfl rfl (Y_assign (v := .bool false) rfl rfl) ?_
      refine rw_nil ?_
      refine cw_ret ?_
      obtain rfl := some_inj hF3
      exact ret1 Tryd.results45 (v1 := .bool false) (resAt_tmp rfl) ⟨rfl, (ST.subR (R' := []) (hS3.sel [] rfl rfl) (fun _ h => by cases h))⟩
    · skip
      have hF4 := cf' hF2 hb1
      refine cw_skip ?_
      refine cw_seq ?_
      refine cw_region ?_
      refine sq 4 rfl rfl (Y_assign (v := .bool true) rfl rfl) ?_
      refine rw_nil ?_
      refine cw_ret ?_
      obtain rfl := some_inj hF4
      exact ret1 Tryd.results45 (v1 := .bool true) (resAt_tmp rfl) ⟨rfl, (ST.subR (R' := []) (hS3.sel [] rfl rfl) (fun _ h => by cases h))⟩

theorem c_laws_eqDyadicS (a : List TDyadic) (b : List TDyadic) (B : Option Addr) (c n : Nat) (B1 : Option Addr) (c1 n1 : Nat) (w0 : World) (hn : a.length = n) (hn1 : b.length = n1) (hS : ST w0 [] w0 [] [⟨B, (a.flatMap enc_Dyadic)⟩, ⟨B1, (b.flatMap enc_Dyadic)⟩]) {r_ : Bool} (hF : F_laws_eqDyadicS a b = some r_) :
    CV Tryd.prog 23 #[.slice B n c, .slice B1 n1 c1] w0 (fun v w' => v = .bool r_ ∧ ST w0 [] w' [] []) := by
  subst hn
  subst hn1
  unfold F_laws_eqDyadicS at hF
  refine cv_of_cw 27 Tryd.func23 rfl Tryd.ntmps23 rfl ?_
  refine cw_seq ?_
  refine cw_region ?_
  refine sq 4 rfl rfl (Y_assign (v := .bool false) rfl rfl) ?_
  refine rw_nil ?_
  refine cw_seq ?_
  refine cw_seq ?_
  refine cw_region ?_
  refine sq 6 rfl rfl (Y_move (v := .slice B a.length c) rfl rfl) ?_
  refine sq 7 rfl rfl (Y_len (B := B) (m := a.length) (c := c) k_sl_26_49 rfl rfl) ?_
  refine sq 8 rfl rfl (Y_move (v := .slice B1 b.length c1) rfl rfl) ?_
  refine sq 9 rfl rfl (Y_len (B := B1) (m := b.length) (c := c1) k_sl_26_49 rfl rfl) ?_
  refine sq 10 rfl rfl (Y_ne (k := .i64) (a := (a.length : Int)) (b := (b.length : Int)) rfl rfl rfl) ?_
  refine rw_nil ?_
  refine cw_cond (b := ((a.length : Int) != (b.length : Int))) rfl (fun hb => ?_) (fun hb => ?_)
  · skip
    have hF1 := ct hF hb
    refine cw_seq ?_
    refine cw_region ?_
    refine sq 4 rfl rfl (Y_assign (v := .bool false) rfl rfl) ?_
    refine rw_nil ?_
    refine cw_ret ?_
    obtain rfl := some_inj hF1
    exact ret1 Tryd.results23 (v1 := .bool false) (resAt_tmp rfl) ⟨rfl, (ST.subR (R' := []) (hS.sel [] rfl rfl) (fun _ h => by cases h))⟩
  · skip
    have hF2 := cf' hF hb
    refine cw_skip ?_
    refine cw_seq ?_
    refine cw_seq ?_
    refine cw_region ?_
    refine sq 5 rfl rfl (Y_assign (v := vi 0) rfl rfl) ?_
    refine rw_nil ?_
    obtain ⟨hN, hF2⟩ := chk_inv hF2
    obtain ⟨z, hz, hF3⟩ := bind_inv hF2
    refine cw_block ?_
    refine cw_loop (fun k f w => ∃ (i1 : Nat), FF f [(0, .slice B a.length c), (1, .slice B1 b.length c1), (5, vi (i1 : Int))] ∧ ST w0 [] w [] [⟨B, (a.flatMap enc_Dyadic)⟩, ⟨B1, (b.flatMap enc_Dyadic)⟩] ∧ i1 + k = a.length ∧ forX (F_laws_eqDyadicS_l1 a b) k i1 () = some z) a.length ⟨0, (FF.cons rfl (FF.cons rfl (FF.cons rfl FF.nil))), (hS.sel [] rfl rfl), Nat.zero_add _, hz⟩ ?_
    rintro k_ f w ⟨i1, hf, hS1, hik, hL⟩
    refine cw_seq ?_
    refine cw_seq ?_
    refine cw_region ?_
    refine sq 11 rfl rfl (Y_move (v := vi (i1 : Int)) rfl (hf.get 5 2 rfl)) ?_
    refine sq 12 rfl rfl (Y_move (v := .slice B a.length c) rfl (hf.get 0 0 rfl)) ?_
    refine sq 13 rfl rfl (Y_len (B := B) (m := a.length) (c := c) k_sl_26_49 rfl rfl) ?_
    refine sq 14 rfl rfl (Y_lt (k := .i64) (a := (i1 : Int)) (b := (a.length : Int)) rfl rfl rfl) ?_
    refine rw_nil ?_
    refine cw_cond (b := (decide ((i1 : Int) < (a.length : Int)))) rfl (fun hlt => ?_) (fun hlt => ?_)
    · skip
      have hlt1 : i1 < a.length := by have h := of_decide_eq_true hlt; omega
      obtain ⟨k_1, rfl⟩ : ∃ k2, k_ = k2 + 1 := ⟨k_ - 1, by omega⟩
      obtain ⟨y, hb1, hL1⟩ := forX_go hL
      unfold F_laws_eqDyadicS_l1 at hb1
      refine cw_skip ?_
      refine cw_seq ?_
      refine cw_block ?_
      refine cw_seq ?_
      obtain ⟨x, hx, hb1⟩ := bind_inv hb1
      obtain ⟨x1, hx1, hb1⟩ := bind_inv hb1
      obtain ⟨r_1, hc, hb1⟩ := bind_inv hb1
      refine ra_start (ST.sel hS1 [] rfl rfl).fn (by kernel_rfl) ?_
      have hS3 := hS1.drew
      refine ra_q 0 17 (v := .slice B a.length c) rfl rfl rfl (by kernel_rfl) (by kernel_rfl) (by kernel_rfl) (ST.sel hS3 [] rfl rfl) (fun w' hw' => (Y_move (v := .slice B a.length c) rfl (hf.get 0 0 rfl))) ?_
      refine ra_q 1 18 (v := vi (i1 : Int)) rfl rfl rfl (by kernel_rfl) (by kernel_rfl) (by kernel_rfl) (ST.sel hS3 [] rfl rfl) (fun w' hw' => (Y_move (v := vi (i1 : Int)) rfl (hf.get 5 2 rfl))) ?_
      refine ra_q 2 19 (v := pt B ((i1 : Int).toNat * 5)) rfl rfl rfl (by kernel_rfl) (by kernel_rfl) (by kernel_rfl) (ST.sel hS3 [] rfl rfl) (fun w' hw' => (Y_index (B := B) (m := a.length) (c := c) (k := .i64) (i := (i1 : Int)) k_sl_26_49 k_sz_49_5 rfl rfl rfl (gi_isSome enc_Dyadic_len rfl (ST.rf hw' (i := 0) rfl) hx) (getI_nn hx) (getI_ltI hx rfl))) ?_
      refine ra_q 3 20 (v := .agg #[vi x.Num.A, vi x.Num.B, vi x.Num.C, vi x.Num.D, vi x.Exp]) rfl rfl rfl (by kernel_rfl) (by kernel_rfl) (by kernel_rfl) (ST.sel hS3 [] rfl rfl) (fun w' hw' => (Y_loadA (B := B) (i := (i1 : Int).toNat * 5) (cs := (a.flatMap enc_Dyadic)) (vs := [vi x.Num.A, vi x.Num.B, vi x.Num.C, vi x.Num.D, vi x.Exp]) k_ag_49 k_sz_49_5 rfl rfl (ST.rf hw' (i := 0) rfl) (enc_Dyadic_len x) (gi_seg enc_Dyadic_len hx))) ?_
      refine ra_q 4 21 (v := .slice B1 b.length c1) rfl rfl rfl (by kernel_rfl) (by kernel_rfl) (by kernel_rfl) (ST.sel hS3 [] rfl rfl) (fun w' hw' => (Y_move (v := .slice B1 b.length c1) rfl (hf.get 1 1 rfl))) ?_
      refine ra_q 5 22 (v := vi (i1 : Int)) rfl rfl rfl (by kernel_rfl) (by kernel_rfl) (by kernel_rfl) (ST.sel hS3 [] rfl rfl) (fun w' hw' => (Y_move (v := vi (i1 : Int)) rfl (hf.get 5 2 rfl))) ?_
      refine ra_q 6 23 (v := pt B1 ((i1 : Int).toNat * 5)) rfl rfl rfl (by kernel_rfl) (by kernel_rfl) (by kernel_rfl) (ST.sel hS3 [] rfl rfl) (fun w' hw' => (Y_index (B := B1) (m := b.length) (c := c1) (k := .i64) (i := (i1 : Int)) k_sl_26_49 k_sz_49_5 rfl rfl rfl (gi_isSome enc_Dyadic_len rfl (ST.rf hw' (i := 1) rfl) hx1) (getI_nn hx1) (getI_ltI hx1 rfl))) ?_
      refine ra_q 7 24 (v := .agg #[vi x1.Num.A, vi x1.Num.B, vi x1.Num.C, vi x1.Num.D, vi x1.Exp]) rfl rfl rfl (by kernel_rfl) (by kernel_rfl) (by kernel_rfl) (ST.sel hS3 [] rfl rfl) (fun w' hw' => (Y_loadA (B := B1) (i := (i1 : Int).toNat * 5) (cs := (b.flatMap enc_Dyadic)) (vs := [vi x1.Num.A, vi x1.Num.B, vi x1.Num.C, vi x1.Num.D, vi x1.Exp]) k_ag_49 k_sz_49_5 rfl rfl (ST.rf hw' (i := 1) rfl) (enc_Dyadic_len x1) (gi_seg enc_Dyadic_len hx1))) ?_
      refine ra_all (rs := [8]) (by kernel_rfl) rfl ?_
      refine ra_c 25 (i := 8) rfl rfl rfl (Yc_func (g := 45) (vs := [.agg #[vi x.Num.A, vi x.Num.B, vi x.Num.C, vi x.Num.D, vi x.Exp], .agg #[vi x1.Num.A, vi x1.Num.B, vi x1.Num.C, vi x1.Num.D, vi x1.Exp]]) k_call_45 rfl (mc rfl (mc rfl mn)) (c_laws_eqDyadic x x1 _  (hS3.inn0 [] rfl) hc)) ?_ ?_
      · rintro _ w_ ⟨rfl, hd⟩
        have hS4 := hS3.out00 hd
        refine ⟨(ST.sel hS4 [] rfl rfl), ?_⟩
        refine ra_q 9 26 (v := .bool (!r_1)) rfl rfl rfl (by kernel_rfl) (by kernel_rfl) (by kernel_rfl) (ST.sel hS4 [] rfl rfl) (fun w' hw' => (Y_not (p := r_1) rfl rfl)) ?_
        refine ra_done (by kernel_rfl) ?_
        refine cw_cond (b := (!r_1)) rfl (fun hb2 => ?_) (fun hb2 => ?_)
        · skip
          have hF4 := ct hb1 hb2
          refine cw_seq ?_
          refine cw_region ?_
          refine sq 4 rfl rfl (Y_assign (v := .bool false) rfl rfl) ?_
          refine rw_nil ?_
          refine cw_ret ?_
          obtain rfl := some_inj hF4
          obtain rfl := some_inj hL1
          obtain rfl := some_inj hF3
          exact ret1 Tryd.results23 (v1 := .bool false) (resAt_tmp rfl) ⟨rfl, (ST.subR (R' := []) (hS4.sel [] rfl rfl) (fun _ h => by cases h))⟩
        · skip
          have hF5 := cf' hb1 hb2
          refine cw_skip ?_
          refine cw_region ?_
          refine sq 15 rfl rfl (Y_move (v := vi (i1 : Int)) rfl (hf.get 5 2 rfl)) ?_
          refine sq 16 rfl rfl (Y_add (k := .i64) (a := (i1 : Int)) (b := 1) rfl rfl rfl) ?_
          refine sq 5 rfl rfl (Y_assign (v := vi (i64.wrap ((i1 : Int) + 1))) rfl rfl) ?_
          refine rw_nil ?_
          obtain rfl := some_inj hF5
          exact ⟨k_1, Nat.lt_succ_self _, i1 + 1, (FF.cons (hf.get 0 0 rfl) (FF.cons (hf.get 1 1 rfl) (FF.cons (congrArg (Value.int .i64) (wr_succ hlt1 hN)) FF.nil))), (hS4.sel [] rfl rfl), (by omega), hL1⟩
      exact allR_nil
    · skip
      obtain rfl : k_ = 0 := by have h := of_decide_eq_false hlt; omega
      refine cw_exit rfl ?_
      obtain rfl := some_inj hL
      refine cw_seq ?_
      refine cw_region ?_
      refine sq 4 rfl rfl (Y_assign (v := .bool true) rfl rfl) ?_
      refine rw_nil ?_
      refine cw_ret ?_
      obtain rfl := some_inj hF3
      exact ret1 Tryd.results23 (v1 := .bool true) (resAt_tmp rfl) ⟨rfl, (ST.subR (R' := []) (hS1.sel [] rfl rfl) (fun _ h => by cases h))⟩

theorem c_laws_eqMatrix (a : TMatrix) (b : TMatrix) (B : Option Addr) (c n : Nat) (B1 : Option Addr) (c1 n1 : Nat) (w0 : World) (hn : a.Cells.length = n) (hn1 : b.Cells.length = n1) (hS : ST w0 [] w0 [] [⟨B, (a.Cells.flatMap enc_Dyadic)⟩, ⟨B1, (b.Cells.flatMap enc_Dyadic)⟩]) {r_ : Bool} (hF : F_laws_eqMatrix a b = some r_) :
    CV Tryd.prog 10 #[.agg #[vi a.Rows, vi a.Cols, .slice B n c], .agg #[vi b.Rows, vi b.Cols, .slice B1 n1 c1]] w0 (fun v w' => v = .bool r_ ∧ ST w0 [] w' [] []) := by
  subst hn
  subst hn1
  unfold F_laws_eqMatrix at hF
  refine cv_of_cw 21 Tryd.func10 rfl Tryd.ntmps10 rfl ?_
  refine cw_seq ?_
  refine cw_region ?_
  refine ss 2 rfl rfl (Ys_box (T := 32) (v := .agg #[vi a.Rows, vi a.Cols, .slice B a.Cells.length c]) (cs := [vi a.Rows, vi a.Cols, .slice B a.Cells.length c]) (m := 3) hS rfl rfl rfl rfl) ?_
  rintro _ w_ ⟨b1, rfl, hS1⟩
  refine ss 3 rfl rfl (Ys_box (T := 32) (v := .agg #[vi b.Rows, vi b.Cols, .slice B1 b.Cells.length c1]) (cs := [vi b.Rows, vi b.Cols, .slice B1 b.Cells.length c1]) (m := 3) hS1 rfl rfl rfl rfl) ?_
  rintro _ w_1 ⟨b2, rfl, hS2⟩
  have hS2 : ST w0 [] _ [⟨some ⟨b1, 0, none⟩, 32, [vi a.Rows, vi a.Cols, .slice B a.Cells.length c], 3⟩, ⟨some ⟨b2, 0, none⟩, 32, [vi b.Rows, vi b.Cols, .slice B1 b.Cells.length c1], 3⟩] [⟨B, (a.Cells.flatMap enc_Dyadic)⟩, ⟨B1, (b.Cells.flatMap enc_Dyadic)⟩] := hS2
  refine sq 4 rfl rfl (Y_assign (v := .bool false) rfl rfl) ?_
  refine rw_nil ?_
  refine cw_seq ?_
  refine cw_seq ?_
  refine cw_region ?_
  refine sq 5 rfl rfl (Y_fieldAddr (B := some ⟨b1, 0, none⟩) (i := 0) (s := 0) k_fd_32_0_0_3 k_sz_3_1 rfl rfl) ?_
  refine sq 6 rfl rfl (Y_load1 (B := some ⟨b1, 0, none⟩) (i := 0) (cs := [vi a.Rows, vi a.Cols, .slice B a.Cells.length c]) (v := vi a.Rows) k_sc_3 rfl rfl (hS2.cf (i := 0) rfl) rfl) ?_
  refine sq 7 rfl rfl (Y_fieldAddr (B := some ⟨b2, 0, none⟩) (i := 0) (s := 0) k_fd_32_0_0_3 k_sz_3_1 rfl rfl) ?_
  refine sq 8 rfl rfl (Y_load1 (B := some ⟨b2, 0, none⟩) (i := 0) (cs := [vi b.Rows, vi b.Cols, .slice B1 b.Cells.length c1]) (v := vi b.Rows) k_sc_3 rfl rfl (hS2.cf (i := 1) rfl) rfl) ?_
  refine sq 9 rfl rfl (Y_ne (k := .i64) (a := a.Rows) (b := b.Rows) rfl rfl rfl) ?_
  refine rw_nil ?_
  refine cw_cond (b := (a.Rows != b.Rows)) rfl (fun hb => ?_) (fun hb => ?_)
  · skip
    have hF1 := ct hF hb
    refine cw_seq ?_
    refine cw_region ?_
    refine sq 4 rfl rfl (Y_assign (v := .bool false) rfl rfl) ?_
    refine rw_nil ?_
    refine cw_ret ?_
    obtain rfl := some_inj hF1
    exact ret1 Tryd.results10 (v1 := .bool false) (resAt_tmp rfl) ⟨rfl, (ST.subR (R' := []) (hS2.sel [] rfl rfl) (fun _ h => by cases h))⟩
  · skip
    have hF2 := cf' hF hb
    refine cw_skip ?_
    refine cw_seq ?_
    refine cw_seq ?_
    refine cw_region ?_
    refine sq 10 rfl rfl (Y_fieldAddr (B := some ⟨b1, 0, none⟩) (i := 0) (s := 0) k_fd_32_1_1_3 k_sz_3_1 rfl rfl) ?_
    refine sq 11 rfl rfl (Y_load1 (B := some ⟨b1, 0, none⟩) (i := 1) (cs := [vi a.Rows, vi a.Cols, .slice B a.Cells.length c]) (v := vi a.Cols) k_sc_3 rfl rfl (hS2.cf (i := 0) rfl) rfl) ?_
    refine sq 12 rfl rfl (Y_fieldAddr (B := some ⟨b2, 0, none⟩) (i := 0) (s := 0) k_fd_32_1_1_3 k_sz_3_1 rfl rfl) ?_
    refine sq 13 rfl rfl (Y_load1 (B := some ⟨b2, 0, none⟩) (i := 1) (cs := [vi b.Rows, vi b.Cols, .slice B1 b.Cells.length c1]) (v := vi b.Cols) k_sc_3 rfl rfl (hS2.cf (i := 1) rfl) rfl) ?_
    refine sq 14 rfl rfl (Y_ne (k := .i64) (a := a.Cols) (b := b.Cols) rfl rfl rfl) ?_
    refine rw_nil ?_
    refine cw_cond (b := (a.Cols != b.Cols)) rfl (fun hb1 => ?_) (fun hb1 => ?_)
    · skip
      have hF3 := ct hF2 hb1
      refine cw_seq ?_
      refine cw_region ?_
      refine sq 4 rfl rfl (Y_assign (v := .bool false) rfl rfl) ?_
      refine rw_nil ?_
      refine cw_ret ?_
      obtain rfl := some_inj hF3
      exact ret1 Tryd.results10 (v1 := .bool false) (resAt_tmp rfl) ⟨rfl, (ST.subR (R' := []) (hS2.sel [] rfl rfl) (fun _ h => by cases h))⟩
    · skip
      have hF4 := cf' hF2 hb1
      refine cw_skip ?_
      refine cw_seq ?_
      refine cw_seq ?_
      refine cw_region ?_
      refine sq 15 rfl rfl (Y_fieldAddr (B := some ⟨b1, 0, none⟩) (i := 0) (s := 0) k_fd_32_2_2_26 k_sz_26_1 rfl rfl) ?_
      refine sq 16 rfl rfl (Y_load1 (B := some ⟨b1, 0, none⟩) (i := 2) (cs := [vi a.Rows, vi a.Cols, .slice B a.Cells.length c]) (v := .slice B a.Cells.length c) k_sc_26 rfl rfl (hS2.cf (i := 0) rfl) rfl) ?_
      refine sq 17 rfl rfl (Y_fieldAddr (B := some ⟨b2, 0, none⟩) (i := 0) (s := 0) k_fd_32_2_2_26 k_sz_26_1 rfl rfl) ?_
      refine sq 18 rfl rfl (Y_load1 (B := some ⟨b2, 0, none⟩) (i := 2) (cs := [vi b.Rows, vi b.Cols, .slice B1 b.Cells.length c1]) (v := .slice B1 b.Cells.length c1) k_sc_26 rfl rfl (hS2.cf (i := 1) rfl) rfl) ?_
      obtain ⟨r_1, hc, hF4⟩ := bind_inv hF4
      refine sc 19 rfl rfl (Yc_func (g := 23) (vs := [.slice B a.Cells.length c, .slice B1 b.Cells.length c1]) k_call_23 rfl (mc rfl (mc rfl mn)) (c_laws_eqDyadicS a.Cells b.Cells B c a.Cells.length B1 c1 b.Cells.length _ rfl rfl (hS2.inn0 [(true, 0), (true, 1)] rfl) hc)) ?_
      rintro _ w_2 ⟨rfl, hd⟩
      have hS3 := hS2.out00 hd
      have hS3 : ST w0 [] _ [⟨some ⟨b1, 0, none⟩, 32, [vi a.Rows, vi a.Cols, .slice B a.Cells.length c], 3⟩, ⟨some ⟨b2, 0, none⟩, 32, [vi b.Rows, vi b.Cols, .slice B1 b.Cells.length c1], 3⟩] [⟨B, (a.Cells.flatMap enc_Dyadic)⟩, ⟨B1, (b.Cells.flatMap enc_Dyadic)⟩] := hS3
      refine sq 20 rfl rfl (Y_not (p := r_1) rfl rfl) ?_
      refine rw_nil ?_
      refine cw_cond (b := (!r_1)) rfl (fun hb2 => ?_) (fun hb2 => ?_)
      · skip
        have hF5 := ct hF4 hb2
        refine cw_seq ?_
        refine cw_region ?_
        refine sq 4 rfl rfl (Y_assign (v := .bool false) rfl rfl) ?_
        refine rw_nil ?_
        refine cw_ret ?_
        obtain rfl := some_inj hF5
        exact ret1 Tryd.results10 (v1 := .bool false) (resAt_tmp rfl) ⟨rfl, (ST.subR (R' := []) (hS3.sel [] rfl rfl) (fun _ h => by cases h))⟩
      · skip
        have hF6 := cf' hF4 hb2
        refine cw_skip ?_
        refine cw_seq ?_
        refine cw_region ?_
        refine sq 4 rfl rfl (Y_assign (v := .bool true) rfl rfl) ?_
        refine rw_nil ?_
        refine cw_ret ?_
        obtain rfl := some_inj hF6
        exact ret1 Tryd.results10 (v1 := .bool true) (resAt_tmp rfl) ⟨rfl, (ST.subR (R' := []) (hS3.sel [] rfl rfl) (fun _ h => by cases h))⟩

theorem c_spec_l1In (n : Int) (lo : Int) (hi : Int)  (w0 : World)  (hS : ST w0 [] w0 [] []) {r_ : Bool} (hF : F_spec_l1In n lo hi = some r_) :
    CV Tryd.prog 100 #[vi n, vi lo, vi hi] w0 (fun v w' => v = .bool r_ ∧ ST w0 [] w' [] []) := by
  unfold F_spec_l1In at hF
  refine cv_of_cw 15 Tryd.func100 rfl Tryd.ntmps100 rfl ?_
  refine cw_seq ?_
  refine cw_region ?_
  refine sq 6 rfl rfl (Y_assign (v := .bool false) rfl rfl) ?_
  refine rw_nil ?_
  refine cw_seq ?_
  refine cw_region ?_
  refine sq 7 rfl rfl (Y_move (v := vi n) rfl rfl) ?_
  refine sq 8 rfl rfl (Y_move (v := vi lo) rfl rfl) ?_
  refine sq 9 rfl rfl (Y_ge (k := .i64) (a := n) (b := lo) rfl rfl rfl) ?_
  refine sq 10 rfl rfl (Y_move (v := .bool (decide (lo ≤ n))) rfl rfl) ?_
  refine sgq 11 (B := (decide (lo ≤ n))) (v := vi n) rfl rfl (wt_t (gd_of (t := 10) (by kernel_rfl) rfl)) (fun hg => (Y_move (v := vi n) rfl rfl)) ?_
  refine sgq 12 (B := (decide (lo ≤ n))) (v := vi hi) rfl rfl (wt_t (gd_of (t := 10) (by kernel_rfl) rfl)) (fun hg1 => (Y_move (v := vi hi) rfl rfl)) ?_
  refine sgq 13 (B := (decide (lo ≤ n))) (v := .bool (decide (n ≤ hi))) rfl rfl (wt_t (gd_of (t := 10) (by kernel_rfl) rfl)) (fun hg2 => (Y_le (k := .i64) (a := n) (b := hi) rfl (gv_of (B := (decide (lo ≤ n))) (v := vi n) hg2) (gv_of (B := (decide (lo ≤ n))) (v := vi hi) hg2))) ?_
  refine sq 14 rfl rfl (Y_and (b := (decide (lo ≤ n))) (z := (decide (n ≤ hi))) rfl rfl rfl rfl) ?_
  refine sq 6 rfl rfl (Y_assign (v := .bool ((decide (lo ≤ n)) && (decide (n ≤ hi)))) rfl rfl) ?_
  refine rw_nil ?_
  refine cw_ret ?_
  obtain rfl := some_inj hF
  exact ret1 Tryd.results100 (v1 := .bool ((decide (lo ≤ n)) && (decide (n ≤ hi)))) (resAt_tmp rfl) ⟨rfl, (ST.subR (R' := []) (hS.sel [] rfl rfl) (fun _ h => by cases h))⟩

theorem c_spec_l1All (l : List Int) (lo : Int) (hi : Int) (B : Option Addr) (c n : Nat) (w0 : World) (hn : l.length = n) (hS : ST w0 [] w0 [] [⟨B, (l.flatMap encI)⟩]) {r_ : Bool} (hF : F_spec_l1All l lo hi = some r_) :
    CV Tryd.prog 103 #[.slice B n c, vi lo, vi hi] w0 (fun v w' => v = .bool r_ ∧ ST w0 [] w' [] []) := by
  subst hn
  unfold F_spec_l1All at hF
  refine cv_of_cw 21 Tryd.func103 rfl Tryd.ntmps103 rfl ?_
  refine cw_seq ?_
  refine cw_region ?_
  refine sq 6 rfl rfl (Y_assign (v := .bool false) rfl rfl) ?_
  refine rw_nil ?_
  refine cw_seq ?_
  refine cw_seq ?_
  refine cw_region ?_
  refine sq 9 rfl rfl (Y_move (v := .slice B l.length c) rfl rfl) ?_
  refine sq 10 rfl rfl (Y_len (B := B) (m := l.length) (c := c) k_sl_102_3 rfl rfl) ?_
  refine sq 11 rfl rfl (Y_move (v := vi 0) rfl rfl) ?_
  refine rw_nil ?_
  obtain ⟨hN, hF⟩ := chk_inv hF
  obtain ⟨z, hz, hF1⟩ := bind_inv hF
  refine cw_block ?_
  refine cw_loop (fun k f w => ∃ (i : Nat), FF f [(1, vi lo), (2, vi hi), (9, .slice B l.length c), (10, vi (l.length : Int)), (11, vi (i : Int))] ∧ ST w0 [] w [] [⟨B, (l.flatMap encI)⟩] ∧ i + k = l.length ∧ forX (F_spec_l1All_l1 l lo hi) k i () = some z) l.length ⟨0, (FF.cons rfl (FF.cons rfl (FF.cons rfl (FF.cons rfl (FF.cons rfl FF.nil))))), (hS.sel [] rfl rfl), Nat.zero_add _, hz⟩ ?_
  rintro k_ f w ⟨i, hf, hS1, hik, hL⟩
  refine cw_seq ?_
  refine cw_region ?_
  refine sq 12 rfl rfl (Y_lt (k := .i64) (a := (i : Int)) (b := (l.length : Int)) rfl (hf.get 11 4 rfl) (hf.get 10 3 rfl)) ?_
  refine rw_nil ?_
  refine cw_seq ?_
  refine cw_cond (b := (decide ((i : Int) < (l.length : Int)))) rfl (fun hlt => ?_) (fun hlt => ?_)
  · skip
    have hlt1 : i < l.length := by have h := of_decide_eq_true hlt; omega
    obtain ⟨k_1, rfl⟩ : ∃ k2, k_ = k2 + 1 := ⟨k_ - 1, by omega⟩
    obtain ⟨y, hb, hL1⟩ := forX_go hL
    unfold F_spec_l1All_l1 at hb
    refine cw_skip ?_
    refine cw_seq ?_
    refine cw_block ?_
    refine cw_seq ?_
    refine cw_region ?_
    obtain ⟨x, hx, hb⟩ := bind_inv hb
    refine sq 13 rfl rfl (Y_index (B := B) (m := l.length) (c := c) (k := .i64) (i := (i : Int)) k_sl_102_3 k_sz_3_1 rfl (hf.get 9 2 rfl) (hf.get 11 4 rfl) (gi_isSome encI_len rfl (hS1.rf (i := 0) rfl) hx) (getI_nn hx) (getI_ltI hx rfl)) ?_
    refine sq 14 rfl rfl (Y_load1 (B := B) (i := (i : Int).toNat * 1) (cs := (l.flatMap encI)) (v := vi x) k_sc_3 rfl rfl (hS1.rf (i := 0) rfl) (gi_at0 encI_len hx rfl)) ?_
    refine sq 8 rfl rfl (Y_assign (v := vi x) rfl rfl) ?_
    refine rw_nil ?_
    refine cw_seq ?_
    refine cw_region ?_
    refine sq 15 rfl rfl (Y_move (v := vi x) rfl rfl) ?_
    refine sq 16 rfl rfl (Y_move (v := vi lo) rfl (hf.get 1 0 rfl)) ?_
    refine sq 17 rfl rfl (Y_move (v := vi hi) rfl (hf.get 2 1 rfl)) ?_
    obtain ⟨r_1, hc, hb⟩ := bind_inv hb
    refine sc 18 rfl rfl (Yc_func (g := 100) (vs := [vi x, vi lo, vi hi]) k_call_100 rfl (mc rfl (mc rfl (mc rfl mn))) (c_spec_l1In x lo hi _  (hS1.inn0 [] rfl) hc)) ?_
    rintro _ w_ ⟨rfl, hd⟩
    have hS2 := hS1.out00 hd
    refine sq 19 rfl rfl (Y_not (p := r_1) rfl rfl) ?_
    refine rw_nil ?_
    refine cw_cond (b := (!r_1)) rfl (fun hb1 => ?_) (fun hb1 => ?_)
    · skip
      have hF2 := ct hb hb1
      refine cw_seq ?_
      refine cw_region ?_
      refine sq 6 rfl rfl (Y_assign (v := .bool false) rfl rfl) ?_
      refine rw_nil ?_
      refine cw_ret ?_
      obtain rfl := some_inj hF2
      obtain rfl := some_inj hL1
      obtain rfl := some_inj hF1
      exact ret1 Tryd.results103 (v1 := .bool false) (resAt_tmp rfl) ⟨rfl, (ST.subR (R' := []) (hS2.sel [] rfl rfl) (fun _ h => by cases h))⟩
    · skip
      have hF3 := cf' hb hb1
      refine cw_skip ?_
      refine cw_region ?_
      refine sq 20 rfl rfl (Y_add (k := .i64) (a := (i : Int)) (b := 1) rfl (hf.get 11 4 rfl) rfl) ?_
      refine sq 11 rfl rfl (Y_move (v := vi (i64.wrap ((i : Int) + 1))) rfl rfl) ?_
      refine rw_nil ?_
      obtain rfl := some_inj hF3
      exact ⟨k_1, Nat.lt_succ_self _, i + 1, (FF.cons (hf.get 1 0 rfl) (FF.cons (hf.get 2 1 rfl) (FF.cons (hf.get 9 2 rfl) (FF.cons (hf.get 10 3 rfl) (FF.cons (congrArg (Value.int .i64) (wr_succ hlt1 hN)) FF.nil))))), (hS2.sel [] rfl rfl), (by omega), hL1⟩
  · skip
    obtain rfl : k_ = 0 := by have h := of_decide_eq_false hlt; omega
    refine cw_exit rfl ?_
    obtain rfl := some_inj hL
    refine cw_seq ?_
    refine cw_region ?_
    refine sq 6 rfl rfl (Y_assign (v := .bool true) rfl rfl) ?_
    refine rw_nil ?_
    refine cw_ret ?_
    obtain rfl := some_inj hF1
    exact ret1 Tryd.results103 (v1 := .bool true) (resAt_tmp rfl) ⟨rfl, (ST.subR (R' := []) (hS1.sel [] rfl rfl) (fun _ h => by cases h))⟩

theorem c_spec_l1Good (x : TRing)  (w0 : World)  (hS : ST w0 [] w0 [] []) {r_ : Bool} (hF : F_spec_l1Good x = some r_) :
    CV Tryd.prog 84 #[.agg #[vi x.A, vi x.B, vi x.C, vi x.D]] w0 (fun v w' => v = .bool r_ ∧ ST w0 [] w' [] []) := by
  unfold F_spec_l1Good at hF
  refine cv_of_cw 13 Tryd.func84 rfl Tryd.ntmps84 rfl ?_
  refine cw_seq ?_
  refine cw_region ?_
  refine ss 1 rfl rfl (Ys_box (T := 47) (v := .agg #[vi x.A, vi x.B, vi x.C, vi x.D]) (cs := [vi x.A, vi x.B, vi x.C, vi x.D]) (m := 4) hS rfl rfl rfl rfl) ?_
  rintro _ w_ ⟨b, rfl, hS1⟩
  refine sq 2 rfl rfl (Y_assign (v := .bool false) rfl rfl) ?_
  refine rw_nil ?_
  refine cw_seq ?_
  refine cw_region ?_
  refine sq 3 rfl rfl (Y_fieldAddr (B := some ⟨b, 0, none⟩) (i := 0) (s := 0) k_fd_47_0_0_3 k_sz_3_1 rfl rfl) ?_
  refine sq 4 rfl rfl (Y_load1 (B := some ⟨b, 0, none⟩) (i := 0) (cs := [vi x.A, vi x.B, vi x.C, vi x.D]) (v := vi x.A) k_sc_3 rfl rfl (hS1.cf (i := 0) rfl) rfl) ?_
  refine sq 5 rfl rfl (Y_fieldAddr (B := some ⟨b, 0, none⟩) (i := 0) (s := 0) k_fd_47_1_1_3 k_sz_3_1 rfl rfl) ?_
  refine sq 6 rfl rfl (Y_load1 (B := some ⟨b, 0, none⟩) (i := 1) (cs := [vi x.A, vi x.B, vi x.C, vi x.D]) (v := vi x.B) k_sc_3 rfl rfl (hS1.cf (i := 0) rfl) rfl) ?_
  refine sq 7 rfl rfl (Y_fieldAddr (B := some ⟨b, 0, none⟩) (i := 0) (s := 0) k_fd_47_2_2_3 k_sz_3_1 rfl rfl) ?_
  refine sq 8 rfl rfl (Y_load1 (B := some ⟨b, 0, none⟩) (i := 2) (cs := [vi x.A, vi x.B, vi x.C, vi x.D]) (v := vi x.C) k_sc_3 rfl rfl (hS1.cf (i := 0) rfl) rfl) ?_
  refine sq 9 rfl rfl (Y_fieldAddr (B := some ⟨b, 0, none⟩) (i := 0) (s := 0) k_fd_47_3_3_3 k_sz_3_1 rfl rfl) ?_
  refine sq 10 rfl rfl (Y_load1 (B := some ⟨b, 0, none⟩) (i := 3) (cs := [vi x.A, vi x.B, vi x.C, vi x.D]) (v := vi x.D) k_sc_3 rfl rfl (hS1.cf (i := 0) rfl) rfl) ?_
  refine ss 11 rfl rfl (Ys_bslice (s := 1) (len := 4) (vs := [(0, vi x.A), (1, vi x.B), (2, vi x.C), (3, vi x.D)]) (cs := [vi x.A, vi x.B, vi x.C, vi x.D]) (zs := [vi 0, vi 0, vi 0, vi 0]) (m := 4) hS1 k_sl_102_3 k_sz_3_1 k_zc_3 rfl (mpc rfl (mpc rfl (mpc rfl (mpc rfl mpn)))) rfl rfl rfl (by kernel_rfl) (by kernel_rfl) rfl) ?_
  rintro _ w_1 ⟨b1, rfl, hS2⟩
  have hS2 : ST w0 [] _ [⟨some ⟨b, 0, none⟩, 47, [vi x.A, vi x.B, vi x.C, vi x.D], 4⟩, ⟨some ⟨b1, 0, none⟩, 3, ([x.A, x.B, x.C, x.D].flatMap encI), 4 * 1⟩] [] := hS2
  obtain ⟨r_1, hc, hF⟩ := bind_inv hF
  refine sc 12 rfl rfl (Yc_func (g := 103) (vs := [.slice (some ⟨b1, 0, none⟩) 4 4, vi (-1000000000), vi 1000000000]) k_call_103 rfl (mc rfl (mc rfl (mc rfl mn))) (c_spec_l1All [x.A, x.B, x.C, x.D] (-1000000000) 1000000000 (some ⟨b1, 0, none⟩) 4 4 _ rfl (hS2.inn0 [(false, 1)] rfl) hc)) ?_
  rintro _ w_2 ⟨rfl, hd⟩
  have hS3 := hS2.out00 hd
  have hS3 : ST w0 [] _ [⟨some ⟨b, 0, none⟩, 47, [vi x.A, vi x.B, vi x.C, vi x.D], 4⟩, ⟨some ⟨b1, 0, none⟩, 3, ([x.A, x.B, x.C, x.D].flatMap encI), 4 * 1⟩] [] := hS3
  refine sq 2 rfl rfl (Y_assign (v := .bool r_1) rfl rfl) ?_
  refine rw_nil ?_
  refine cw_ret ?_
  obtain rfl := some_inj hF
  exact ret1 Tryd.results84 (v1 := .bool r_1) (resAt_tmp rfl) ⟨rfl, (ST.subR (R' := []) (hS3.sel [] rfl rfl) (fun _ h => by cases h))⟩

theorem c_spec_l2C_ring (c : Tl2C) (x : TRing) (B : Option Addr) (w0 : World)  (hS : ST w0 (bl [⟨B, 59, [.bool c.bad], 1⟩]) w0 [⟨B, 59, [.bool c.bad], 1⟩] []) {r_ : TRing} {m : Tl2C} (hF : F_spec_l2C_ring c x = some (r_, m)) :
    CV Tryd.prog 52 #[pt B 0, .agg #[vi x.A, vi x.B, vi x.C, vi x.D]] w0 (fun v w' => v = .agg #[vi r_.A, vi r_.B, vi r_.C, vi r_.D] ∧ ST w0 (bl [⟨B, 59, [.bool c.bad], 1⟩]) w' [⟨B, 59, [.bool m.bad], 1⟩] []) := by
  unfold F_spec_l2C_ring at hF
  refine cv_of_cw 13 Tryd.func52 rfl Tryd.ntmps52 rfl ?_
  refine cw_seq ?_
  refine cw_region ?_
  refine ss 3 rfl rfl (Ys_box (T := 47) (v := .agg #[vi x.A, vi x.B, vi x.C, vi x.D]) (cs := [vi x.A, vi x.B, vi x.C, vi x.D]) (m := 4) hS rfl rfl rfl rfl) ?_
  rintro _ w_ ⟨b, rfl, hS1⟩
  have hS1 : ST w0 (bl [⟨B, 59, [.bool c.bad], 1⟩]) _ [⟨B, 59, [.bool c.bad], 1⟩, ⟨some ⟨b, 0, none⟩, 47, [vi x.A, vi x.B, vi x.C, vi x.D], 4⟩] [] := hS1
  refine ss 4 rfl rfl (Ys_alloc (T := 47) (cs := [vi 0, vi 0, vi 0, vi 0]) (m := 4) hS1 k_zero_47 rfl rfl rfl) ?_
  rintro _ w_1 ⟨b1, rfl, hS2⟩
  have hS2 : ST w0 (bl [⟨B, 59, [.bool c.bad], 1⟩]) _ [⟨B, 59, [.bool c.bad], 1⟩, ⟨some ⟨b, 0, none⟩, 47, [vi x.A, vi x.B, vi x.C, vi x.D], 4⟩, ⟨some ⟨b1, 0, none⟩, 47, [vi 0, vi 0, vi 0, vi 0], 4⟩] [] := hS2
  refine rw_nil ?_
  refine cw_seq ?_
  refine cw_seq ?_
  refine cw_region ?_
  refine sq 5 rfl rfl (Y_loadA (B := some ⟨b, 0, none⟩) (i := 0) (cs := [vi x.A, vi x.B, vi x.C, vi x.D]) (vs := [vi x.A, vi x.B, vi x.C, vi x.D]) k_ag_47 k_sz_47_4 rfl rfl (hS2.cf (i := 1) rfl) rfl rfl) ?_
  obtain ⟨r_1, hc, hF⟩ := bind_inv hF
  refine sc 6 rfl rfl (Yc_func (g := 84) (vs := [.agg #[vi x.A, vi x.B, vi x.C, vi x.D]]) k_call_84 rfl (mc rfl mn) (c_spec_l1Good x _  (hS2.inn0 [] rfl) hc)) ?_
  rintro _ w_2 ⟨rfl, hd⟩
  have hS3 := hS2.out00 hd
  have hS3 : ST w0 (bl [⟨B, 59, [.bool c.bad], 1⟩]) _ [⟨B, 59, [.bool c.bad], 1⟩, ⟨some ⟨b, 0, none⟩, 47, [vi x.A, vi x.B, vi x.C, vi x.D], 4⟩, ⟨some ⟨b1, 0, none⟩, 47, [vi 0, vi 0, vi 0, vi 0], 4⟩] [] := hS3
  refine sq 7 rfl rfl (Y_not (p := r_1) rfl rfl) ?_
  refine rw_nil ?_
  refine cw_cond (b := (!r_1)) rfl (fun hb => ?_) (fun hb => ?_)
  · skip
    have hF1 := ct hF hb
    refine cw_seq ?_
    refine cw_region ?_
    refine sq 8 rfl rfl (Y_move (v := pt B 0) rfl rfl) ?_
    refine sq 9 rfl rfl (Y_nilCheck (B := B) (i := 0) rfl rfl) ?_
    refine sq 10 rfl rfl (Y_fieldAddr (B := B) (i := 0) (s := 0) k_fd_59_0_0_4 k_sz_4_1 rfl rfl) ?_
    refine ss0 rfl rfl (Ys_store (i := 0) (s := 1) (B := B) (T' := 59) (v := .bool true) (vs := [.bool true]) (k := 0) (cs' := [.bool true]) hS3 k_sz_4_1 rfl rfl rfl rfl rfl rfl rfl (Nat.le_of_ble_eq_true rfl) rfl rfl) ?_
    rintro _ w_3 ⟨rfl, hS4⟩
    have hS4 : ST w0 (bl [⟨B, 59, [.bool c.bad], 1⟩]) _ [⟨B, 59, [.bool true], 1⟩, ⟨some ⟨b, 0, none⟩, 47, [vi x.A, vi x.B, vi x.C, vi x.D], 4⟩, ⟨some ⟨b1, 0, none⟩, 47, [vi 0, vi 0, vi 0, vi 0], 4⟩] [] := hS4
    refine rw_nil ?_
    refine cw_seq ?_
    refine cw_region ?_
    refine sq 11 rfl rfl (Y_buildS (zs := [vi 0, vi 0, vi 0, vi 0]) (vs := []) (cs := [vi 0, vi 0, vi 0, vi 0]) k_pl_47 k_zero_47 rfl mpn rfl) ?_
    refine ss0 rfl rfl (Ys_store (i := 2) (s := 4) (B := some ⟨b1, 0, none⟩) (T' := 47) (v := .agg #[vi 0, vi 0, vi 0, vi 0]) (vs := [vi 0, vi 0, vi 0, vi 0]) (k := 0) (cs' := [vi 0, vi 0, vi 0, vi 0]) hS4 k_sz_47_4 rfl rfl rfl rfl rfl rfl rfl (Nat.le_of_ble_eq_true rfl) rfl rfl) ?_
    rintro _ w_4 ⟨rfl, hS5⟩
    have hS5 : ST w0 (bl [⟨B, 59, [.bool c.bad], 1⟩]) _ [⟨B, 59, [.bool true], 1⟩, ⟨some ⟨b, 0, none⟩, 47, [vi x.A, vi x.B, vi x.C, vi x.D], 4⟩, ⟨some ⟨b1, 0, none⟩, 47, [vi 0, vi 0, vi 0, vi 0], 4⟩] [] := hS5
    refine rw_nil ?_
    refine cw_ret ?_
    obtain ⟨rfl, rfl⟩ := pr2 (some_inj hF1)
    exact ret1 Tryd.results52 (v1 := .agg #[vi 0, vi 0, vi 0, vi 0]) (resAt_cellA (B := some ⟨b1, 0, none⟩) (i := 0) (cs := [vi 0, vi 0, vi 0, vi 0]) (vs := [vi 0, vi 0, vi 0, vi 0]) rfl k_ag_47 k_sz_47_4 (hS5.cf (i := 2) rfl) rfl rfl) ⟨rfl, (ST.subR (R' := []) (hS5.sel [0] rfl rfl) (fun _ h => by cases h))⟩
  · skip
    have hF2 := cf' hF hb
    refine cw_skip ?_
    refine cw_seq ?_
    refine cw_region ?_
    refine sq 12 rfl rfl (Y_loadA (B := some ⟨b, 0, none⟩) (i := 0) (cs := [vi x.A, vi x.B, vi x.C, vi x.D]) (vs := [vi x.A, vi x.B, vi x.C, vi x.D]) k_ag_47 k_sz_47_4 rfl rfl (hS3.cf (i := 1) rfl) rfl rfl) ?_
    refine ss0 rfl rfl (Ys_store (i := 2) (s := 4) (B := some ⟨b1, 0, none⟩) (T' := 47) (v := .agg #[vi x.A, vi x.B, vi x.C, vi x.D]) (vs := [vi x.A, vi x.B, vi x.C, vi x.D]) (k := 0) (cs' := [vi x.A, vi x.B, vi x.C, vi x.D]) hS3 k_sz_47_4 rfl rfl rfl rfl rfl rfl rfl (Nat.le_of_ble_eq_true rfl) rfl rfl) ?_
    rintro _ w_5 ⟨rfl, hS6⟩
    have hS6 : ST w0 (bl [⟨B, 59, [.bool c.bad], 1⟩]) _ [⟨B, 59, [.bool c.bad], 1⟩, ⟨some ⟨b, 0, none⟩, 47, [vi x.A, vi x.B, vi x.C, vi x.D], 4⟩, ⟨some ⟨b1, 0, none⟩, 47, [vi x.A, vi x.B, vi x.C, vi x.D], 4⟩] [] := hS6
    refine rw_nil ?_
    refine cw_ret ?_
    obtain ⟨rfl, rfl⟩ := pr2 (some_inj hF2)
    exact ret1 Tryd.results52 (v1 := .agg #[vi x.A, vi x.B, vi x.C, vi x.D]) (resAt_cellA (B := some ⟨b1, 0, none⟩) (i := 0) (cs := [vi x.A, vi x.B, vi x.C, vi x.D]) (vs := [vi x.A, vi x.B, vi x.C, vi x.D]) rfl k_ag_47 k_sz_47_4 (hS6.cf (i := 2) rfl) rfl rfl) ⟨rfl, (ST.subR (R' := []) (hS6.sel [0] rfl rfl) (fun _ h => by cases h))⟩

theorem c_spec_l1Root (x : TRing)  (w0 : World)  (hS : ST w0 [] w0 [] []) {r_ : TRing} (hF : F_spec_l1Root x = some r_) :
    CV Tryd.prog 53 #[.agg #[vi x.A, vi x.B, vi x.C, vi x.D]] w0 (fun v w' => v = .agg #[vi r_.A, vi r_.B, vi r_.C, vi r_.D] ∧ ST w0 [] w' [] []) := by
  unfold F_spec_l1Root at hF
  refine cv_of_cw 24 Tryd.func53 rfl Tryd.ntmps53 rfl ?_
  refine cw_seq ?_
  refine cw_region ?_
  refine ss 1 rfl rfl (Ys_box (T := 47) (v := .agg #[vi x.A, vi x.B, vi x.C, vi x.D]) (cs := [vi x.A, vi x.B, vi x.C, vi x.D]) (m := 4) hS rfl rfl rfl rfl) ?_
  rintro _ w_ ⟨b, rfl, hS1⟩
  refine ss 2 rfl rfl (Ys_alloc (T := 47) (cs := [vi 0, vi 0, vi 0, vi 0]) (m := 4) hS1 k_zero_47 rfl rfl rfl) ?_
  rintro _ w_1 ⟨b1, rfl, hS2⟩
  have hS2 : ST w0 [] _ [⟨some ⟨b, 0, none⟩, 47, [vi x.A, vi x.B, vi x.C, vi x.D], 4⟩, ⟨some ⟨b1, 0, none⟩, 47, [vi 0, vi 0, vi 0, vi 0], 4⟩] [] := hS2
  refine rw_nil ?_
  refine cw_seq ?_
  refine cw_region ?_
  refine sq 3 rfl rfl (Y_fieldAddr (B := some ⟨b, 0, none⟩) (i := 0) (s := 0) k_fd_47_1_1_3 k_sz_3_1 rfl rfl) ?_
  refine sq 4 rfl rfl (Y_load1 (B := some ⟨b, 0, none⟩) (i := 1) (cs := [vi x.A, vi x.B, vi x.C, vi x.D]) (v := vi x.B) k_sc_3 rfl rfl (hS2.cf (i := 0) rfl) rfl) ?_
  refine sq 5 rfl rfl (Y_fieldAddr (B := some ⟨b, 0, none⟩) (i := 0) (s := 0) k_fd_47_3_3_3 k_sz_3_1 rfl rfl) ?_
  refine sq 6 rfl rfl (Y_load1 (B := some ⟨b, 0, none⟩) (i := 3) (cs := [vi x.A, vi x.B, vi x.C, vi x.D]) (v := vi x.D) k_sc_3 rfl rfl (hS2.cf (i := 0) rfl) rfl) ?_
  refine sq 7 rfl rfl (Y_sub (k := .i64) (a := x.B) (b := x.D) rfl rfl rfl) ?_
  refine sq 8 rfl rfl (Y_fieldAddr (B := some ⟨b, 0, none⟩) (i := 0) (s := 0) k_fd_47_0_0_3 k_sz_3_1 rfl rfl) ?_
  refine sq 9 rfl rfl (Y_load1 (B := some ⟨b, 0, none⟩) (i := 0) (cs := [vi x.A, vi x.B, vi x.C, vi x.D]) (v := vi x.A) k_sc_3 rfl rfl (hS2.cf (i := 0) rfl) rfl) ?_
  refine sq 10 rfl rfl (Y_fieldAddr (B := some ⟨b, 0, none⟩) (i := 0) (s := 0) k_fd_47_2_2_3 k_sz_3_1 rfl rfl) ?_
  refine sq 11 rfl rfl (Y_load1 (B := some ⟨b, 0, none⟩) (i := 2) (cs := [vi x.A, vi x.B, vi x.C, vi x.D]) (v := vi x.C) k_sc_3 rfl rfl (hS2.cf (i := 0) rfl) rfl) ?_
  refine sq 12 rfl rfl (Y_add (k := .i64) (a := x.A) (b := x.C) rfl rfl rfl) ?_
  refine sq 13 rfl rfl (Y_fieldAddr (B := some ⟨b, 0, none⟩) (i := 0) (s := 0) k_fd_47_1_1_3 k_sz_3_1 rfl rfl) ?_
  refine sq 14 rfl rfl (Y_load1 (B := some ⟨b, 0, none⟩) (i := 1) (cs := [vi x.A, vi x.B, vi x.C, vi x.D]) (v := vi x.B) k_sc_3 rfl rfl (hS2.cf (i := 0) rfl) rfl) ?_
  refine sq 15 rfl rfl (Y_fieldAddr (B := some ⟨b, 0, none⟩) (i := 0) (s := 0) k_fd_47_3_3_3 k_sz_3_1 rfl rfl) ?_
  refine sq 16 rfl rfl (Y_load1 (B := some ⟨b, 0, none⟩) (i := 3) (cs := [vi x.A, vi x.B, vi x.C, vi x.D]) (v := vi x.D) k_sc_3 rfl rfl (hS2.cf (i := 0) rfl) rfl) ?_
  refine sq 17 rfl rfl (Y_add (k := .i64) (a := x.B) (b := x.D) rfl rfl rfl) ?_
  refine sq 18 rfl rfl (Y_fieldAddr (B := some ⟨b, 0, none⟩) (i := 0) (s := 0) k_fd_47_2_2_3 k_sz_3_1 rfl rfl) ?_
  refine sq 19 rfl rfl (Y_load1 (B := some ⟨b, 0, none⟩) (i := 2) (cs := [vi x.A, vi x.B, vi x.C, vi x.D]) (v := vi x.C) k_sc_3 rfl rfl (hS2.cf (i := 0) rfl) rfl) ?_
  refine sq 20 rfl rfl (Y_fieldAddr (B := some ⟨b, 0, none⟩) (i := 0) (s := 0) k_fd_47_0_0_3 k_sz_3_1 rfl rfl) ?_
  refine sq 21 rfl rfl (Y_load1 (B := some ⟨b, 0, none⟩) (i := 0) (cs := [vi x.A, vi x.B, vi x.C, vi x.D]) (v := vi x.A) k_sc_3 rfl rfl (hS2.cf (i := 0) rfl) rfl) ?_
  refine sq 22 rfl rfl (Y_sub (k := .i64) (a := x.C) (b := x.A) rfl rfl rfl) ?_
  refine sq 23 rfl rfl (Y_buildS (zs := [vi 0, vi 0, vi 0, vi 0]) (vs := [(0, vi (i64.wrap (x.B - x.D))), (1, vi (i64.wrap (x.A + x.C))), (2, vi (i64.wrap (x.B + x.D))), (3, vi (i64.wrap (x.C - x.A)))]) (cs := [vi (i64.wrap (x.B - x.D)), vi (i64.wrap (x.A + x.C)), vi (i64.wrap (x.B + x.D)), vi (i64.wrap (x.C - x.A))]) k_pl_47 k_zero_47 rfl (mpc rfl (mpc rfl (mpc rfl (mpc rfl mpn)))) rfl) ?_
  refine ss0 rfl rfl (Ys_store (i := 1) (s := 4) (B := some ⟨b1, 0, none⟩) (T' := 47) (v := .agg #[vi (i64.wrap (x.B - x.D)), vi (i64.wrap (x.A + x.C)), vi (i64.wrap (x.B + x.D)), vi (i64.wrap (x.C - x.A))]) (vs := [vi (i64.wrap (x.B - x.D)), vi (i64.wrap (x.A + x.C)), vi (i64.wrap (x.B + x.D)), vi (i64.wrap (x.C - x.A))]) (k := 0) (cs' := [vi (i64.wrap (x.B - x.D)), vi (i64.wrap (x.A + x.C)), vi (i64.wrap (x.B + x.D)), vi (i64.wrap (x.C - x.A))]) hS2 k_sz_47_4 rfl rfl rfl rfl rfl rfl rfl (Nat.le_of_ble_eq_true rfl) rfl rfl) ?_
  rintro _ w_2 ⟨rfl, hS3⟩
  have hS3 : ST w0 [] _ [⟨some ⟨b, 0, none⟩, 47, [vi x.A, vi x.B, vi x.C, vi x.D], 4⟩, ⟨some ⟨b1, 0, none⟩, 47, [vi (i64.wrap (x.B - x.D)), vi (i64.wrap (x.A + x.C)), vi (i64.wrap (x.B + x.D)), vi (i64.wrap (x.C - x.A))], 4⟩] [] := hS3
  refine rw_nil ?_
  refine cw_ret ?_
  obtain rfl := some_inj hF
  exact ret1 Tryd.results53 (v1 := .agg #[vi (i64.wrap (x.B - x.D)), vi (i64.wrap (x.A + x.C)), vi (i64.wrap (x.B + x.D)), vi (i64.wrap (x.C - x.A))]) (resAt_cellA (B := some ⟨b1, 0, none⟩) (i := 0) (cs := [vi (i64.wrap (x.B - x.D)), vi (i64.wrap (x.A + x.C)), vi (i64.wrap (x.B + x.D)), vi (i64.wrap (x.C - x.A))]) (vs := [vi (i64.wrap (x.B - x.D)), vi (i64.wrap (x.A + x.C)), vi (i64.wrap (x.B + x.D)), vi (i64.wrap (x.C - x.A))]) rfl k_ag_47 k_sz_47_4 (hS3.cf (i := 1) rfl) rfl rfl) ⟨rfl, (ST.subR (R' := []) (hS3.sel [] rfl rfl) (fun _ h => by cases h))⟩

theorem c_spec_l1Even (x : TRing)  (w0 : World)  (hS : ST w0 [] w0 [] []) {r_ : Bool} (hF : F_spec_l1Even x = some r_) :
    CV Tryd.prog 85 #[.agg #[vi x.A, vi x.B, vi x.C, vi x.D]] w0 (fun v w' => v = .bool r_ ∧ ST w0 [] w' [] []) := by
  unfold F_spec_l1Even at hF
  refine cv_of_cw 19 Tryd.func85 rfl Tryd.ntmps85 rfl ?_
  refine cw_seq ?_
  refine cw_region ?_
  refine ss 1 rfl rfl (Ys_box (T := 47) (v := .agg #[vi x.A, vi x.B, vi x.C, vi x.D]) (cs := [vi x.A, vi x.B, vi x.C, vi x.D]) (m := 4) hS rfl rfl rfl rfl) ?_
  rintro _ w_ ⟨b, rfl, hS1⟩
  refine sq 2 rfl rfl (Y_assign (v := .bool false) rfl rfl) ?_
  refine rw_nil ?_
  refine cw_seq ?_
  refine cw_region ?_
  refine sq 3 rfl rfl (Y_fieldAddr (B := some ⟨b, 0, none⟩) (i := 0) (s := 0) k_fd_47_0_0_3 k_sz_3_1 rfl rfl) ?_
  refine sq 4 rfl rfl (Y_load1 (B := some ⟨b, 0, none⟩) (i := 0) (cs := [vi x.A, vi x.B, vi x.C, vi x.D]) (v := vi x.A) k_sc_3 rfl rfl (hS1.cf (i := 0) rfl) rfl) ?_
  refine sq 5 rfl rfl (Y_fieldAddr (B := some ⟨b, 0, none⟩) (i := 0) (s := 0) k_fd_47_2_2_3 k_sz_3_1 rfl rfl) ?_
  refine sq 6 rfl rfl (Y_load1 (B := some ⟨b, 0, none⟩) (i := 2) (cs := [vi x.A, vi x.B, vi x.C, vi x.D]) (v := vi x.C) k_sc_3 rfl rfl (hS1.cf (i := 0) rfl) rfl) ?_
  refine sq 7 rfl rfl (Y_add (k := .i64) (a := x.A) (b := x.C) rfl rfl rfl) ?_
  refine sq 8 rfl rfl (Y_rem (k := .i64) (a := (i64.wrap (x.A + x.C))) (b := 2) rfl rfl rfl (by decide)) ?_
  refine sq 9 rfl rfl (Y_eq (k := .i64) (a := (Int.tmod (i64.wrap (x.A + x.C)) 2)) (b := 0) rfl rfl rfl) ?_
  refine sq 10 rfl rfl (Y_move (v := .bool ((Int.tmod (i64.wrap (x.A + x.C)) 2) == 0)) rfl rfl) ?_
  refine sgq 11 (B := ((Int.tmod (i64.wrap (x.A + x.C)) 2) == 0)) (v := pt (some ⟨b, 0, none⟩) 1) rfl rfl (wt_t (gd_of (t := 10) (by kernel_rfl) rfl)) (fun hg => (Y_fieldAddr (B := some ⟨b, 0, none⟩) (i := 0) (s := 0) k_fd_47_1_1_3 k_sz_3_1 rfl rfl)) ?_
  refine sgq 12 (B := ((Int.tmod (i64.wrap (x.A + x.C)) 2) == 0)) (v := vi x.B) rfl rfl (wt_t (gd_of (t := 10) (by kernel_rfl) rfl)) (fun hg1 => (Y_load1 (B := some ⟨b, 0, none⟩) (i := 1) (cs := [vi x.A, vi x.B, vi x.C, vi x.D]) (v := vi x.B) k_sc_3 rfl (gv_of (B := ((Int.tmod (i64.wrap (x.A + x.C)) 2) == 0)) (v := pt (some ⟨b, 0, none⟩) 1) hg1) (hS1.cf (i := 0) rfl) rfl)) ?_
  refine sgq 13 (B := ((Int.tmod (i64.wrap (x.A + x.C)) 2) == 0)) (v := pt (some ⟨b, 0, none⟩) 3) rfl rfl (wt_t (gd_of (t := 10) (by kernel_rfl) rfl)) (fun hg2 => (Y_fieldAddr (B := some ⟨b, 0, none⟩) (i := 0) (s := 0) k_fd_47_3_3_3 k_sz_3_1 rfl rfl)) ?_
  refine sgq 14 (B := ((Int.tmod (i64.wrap (x.A + x.C)) 2) == 0)) (v := vi x.D) rfl rfl (wt_t (gd_of (t := 10) (by kernel_rfl) rfl)) (fun hg3 => (Y_load1 (B := some ⟨b, 0, none⟩) (i := 3) (cs := [vi x.A, vi x.B, vi x.C, vi x.D]) (v := vi x.D) k_sc_3 rfl (gv_of (B := ((Int.tmod (i64.wrap (x.A + x.C)) 2) == 0)) (v := pt (some ⟨b, 0, none⟩) 3) hg3) (hS1.cf (i := 0) rfl) rfl)) ?_
  refine sgq 15 (B := ((Int.tmod (i64.wrap (x.A + x.C)) 2) == 0)) (v := vi (i64.wrap (x.B + x.D))) rfl rfl (wt_t (gd_of (t := 10) (by kernel_rfl) rfl)) (fun hg4 => (Y_add (k := .i64) (a := x.B) (b := x.D) rfl (gv_of (B := ((Int.tmod (i64.wrap (x.A + x.C)) 2) == 0)) (v := vi x.B) hg4) (gv_of (B := ((Int.tmod (i64.wrap (x.A + x.C)) 2) == 0)) (v := vi x.D) hg4))) ?_
  refine sgq 16 (B := ((Int.tmod (i64.wrap (x.A + x.C)) 2) == 0)) (v := vi (Int.tmod (i64.wrap (x.B + x.D)) 2)) rfl rfl (wt_t (gd_of (t := 10) (by kernel_rfl) rfl)) (fun hg5 => (Y_rem (k := .i64) (a := (i64.wrap (x.B + x.D))) (b := 2) rfl (gv_of (B := ((Int.tmod (i64.wrap (x.A + x.C)) 2) == 0)) (v := vi (i64.wrap (x.B + x.D))) hg5) rfl (by decide))) ?_
  refine sgq 17 (B := ((Int.tmod (i64.wrap (x.A + x.C)) 2) == 0)) (v := .bool ((Int.tmod (i64.wrap (x.B + x.D)) 2) == 0)) rfl rfl (wt_t (gd_of (t := 10) (by kernel_rfl) rfl)) (fun hg6 => (Y_eq (k := .i64) (a := (Int.tmod (i64.wrap (x.B + x.D)) 2)) (b := 0) rfl (gv_of (B := ((Int.tmod (i64.wrap (x.A + x.C)) 2) == 0)) (v := vi (Int.tmod (i64.wrap (x.B + x.D)) 2)) hg6) rfl)) ?_
  refine sq 18 rfl rfl (Y_and (b := ((Int.tmod (i64.wrap (x.A + x.C)) 2) == 0)) (z := ((Int.tmod (i64.wrap (x.B + x.D)) 2) == 0)) rfl rfl rfl rfl) ?_
  refine sq 2 rfl rfl (Y_assign (v := .bool (((Int.tmod (i64.wrap (x.A + x.C)) 2) == 0) && ((Int.tmod (i64.wrap (x.B + x.D)) 2) == 0))) rfl rfl) ?_
  refine rw_nil ?_
  refine cw_ret ?_
  obtain rfl := some_inj hF
  exact ret1 Tryd.results85 (v1 := .bool (((Int.tmod (i64.wrap (x.A + x.C)) 2) == 0) && ((Int.tmod (i64.wrap (x.B + x.D)) 2) == 0))) (resAt_tmp rfl) ⟨rfl, (ST.subR (R' := []) (hS1.sel [] rfl rfl) (fun _ h => by cases h))⟩

theorem c_spec_l1Half (x : TRing)  (w0 : World)  (hS : ST w0 [] w0 [] []) {r_ : TRing} (hF : F_spec_l1Half x = some r_) :
    CV Tryd.prog 86 #[.agg #[vi x.A, vi x.B, vi x.C, vi x.D]] w0 (fun v w' => v = .agg #[vi r_.A, vi r_.B, vi r_.C, vi r_.D] ∧ ST w0 [] w' [] []) := by
  unfold F_spec_l1Half at hF
  refine cv_of_cw 19 Tryd.func86 rfl Tryd.ntmps86 rfl ?_
  refine cw_seq ?_
  refine cw_region ?_
  refine ss 1 rfl rfl (Ys_box (T := 47) (v := .agg #[vi x.A, vi x.B, vi x.C, vi x.D]) (cs := [vi x.A, vi x.B, vi x.C, vi x.D]) (m := 4) hS rfl rfl rfl rfl) ?_
  rintro _ w_ ⟨b, rfl, hS1⟩
  refine ss 2 rfl rfl (Ys_alloc (T := 47) (cs := [vi 0, vi 0, vi 0, vi 0]) (m := 4) hS1 k_zero_47 rfl rfl rfl) ?_
  rintro _ w_1 ⟨b1, rfl, hS2⟩
  have hS2 : ST w0 [] _ [⟨some ⟨b, 0, none⟩, 47, [vi x.A, vi x.B, vi x.C, vi x.D], 4⟩, ⟨some ⟨b1, 0, none⟩, 47, [vi 0, vi 0, vi 0, vi 0], 4⟩] [] := hS2
  refine rw_nil ?_
  refine cw_seq ?_
  refine cw_region ?_
  refine sq 4 rfl rfl (Y_loadA (B := some ⟨b, 0, none⟩) (i := 0) (cs := [vi x.A, vi x.B, vi x.C, vi x.D]) (vs := [vi x.A, vi x.B, vi x.C, vi x.D]) k_ag_47 k_sz_47_4 rfl rfl (hS2.cf (i := 0) rfl) rfl rfl) ?_
  obtain ⟨r_1, hc, hF⟩ := bind_inv hF
  refine sc 5 rfl rfl (Yc_func (g := 53) (vs := [.agg #[vi x.A, vi x.B, vi x.C, vi x.D]]) k_call_53 rfl (mc rfl mn) (c_spec_l1Root x _  (hS2.inn0 [] rfl) hc)) ?_
  rintro _ w_2 ⟨rfl, hd⟩
  have hS3 := hS2.out00 hd
  have hS3 : ST w0 [] _ [⟨some ⟨b, 0, none⟩, 47, [vi x.A, vi x.B, vi x.C, vi x.D], 4⟩, ⟨some ⟨b1, 0, none⟩, 47, [vi 0, vi 0, vi 0, vi 0], 4⟩] [] := hS3
  refine ss 3 rfl rfl (Ys_alloc (T := 47) (cs := [vi 0, vi 0, vi 0, vi 0]) (m := 4) hS3 k_zero_47 rfl rfl rfl) ?_
  rintro _ w_3 ⟨b2, rfl, hS4⟩
  have hS4 : ST w0 [] _ [⟨some ⟨b, 0, none⟩, 47, [vi x.A, vi x.B, vi x.C, vi x.D], 4⟩, ⟨some ⟨b1, 0, none⟩, 47, [vi 0, vi 0, vi 0, vi 0], 4⟩, ⟨some ⟨b2, 0, none⟩, 47, [vi 0, vi 0, vi 0, vi 0], 4⟩] [] := hS4
  refine ss0 rfl rfl (Ys_store (i := 2) (s := 4) (B := some ⟨b2, 0, none⟩) (T' := 47) (v := .agg #[vi r_1.A, vi r_1.B, vi r_1.C, vi r_1.D]) (vs := [vi r_1.A, vi r_1.B, vi r_1.C, vi r_1.D]) (k := 0) (cs' := [vi r_1.A, vi r_1.B, vi r_1.C, vi r_1.D]) hS4 k_sz_47_4 rfl rfl rfl rfl rfl rfl rfl (Nat.le_of_ble_eq_true rfl) rfl rfl) ?_
  rintro _ w_4 ⟨rfl, hS5⟩
  have hS5 : ST w0 [] _ [⟨some ⟨b, 0, none⟩, 47, [vi x.A, vi x.B, vi x.C, vi x.D], 4⟩, ⟨some ⟨b1, 0, none⟩, 47, [vi 0, vi 0, vi 0, vi 0], 4⟩, ⟨some ⟨b2, 0, none⟩, 47, [vi r_1.A, vi r_1.B, vi r_1.C, vi r_1.D], 4⟩] [] := hS5
  refine rw_nil ?_
  refine cw_seq ?_
  refine cw_region ?_
  refine sq 6 rfl rfl (Y_fieldAddr (B := some ⟨b2, 0, none⟩) (i := 0) (s := 0) k_fd_47_0_0_3 k_sz_3_1 rfl rfl) ?_
  refine sq 7 rfl rfl (Y_load1 (B := some ⟨b2, 0, none⟩) (i := 0) (cs := [vi r_1.A, vi r_1.B, vi r_1.C, vi r_1.D]) (v := vi r_1.A) k_sc_3 rfl rfl (hS5.cf (i := 2) rfl) rfl) ?_
  refine sq 8 rfl rfl (Y_quo (k := .i64) (a := r_1.A) (b := 2) rfl rfl rfl (by decide)) ?_
  refine sq 9 rfl rfl (Y_fieldAddr (B := some ⟨b2, 0, none⟩) (i := 0) (s := 0) k_fd_47_1_1_3 k_sz_3_1 rfl rfl) ?_
  refine sq 10 rfl rfl (Y_load1 (B := some ⟨b2, 0, none⟩) (i := 1) (cs := [vi r_1.A, vi r_1.B, vi r_1.C, vi r_1.D]) (v := vi r_1.B) k_sc_3 rfl rfl (hS5.cf (i := 2) rfl) rfl) ?_
  refine sq 11 rfl rfl (Y_quo (k := .i64) (a := r_1.B) (b := 2) rfl rfl rfl (by decide)) ?_
  refine sq 12 rfl rfl (Y_fieldAddr (B := some ⟨b2, 0, none⟩) (i := 0) (s := 0) k_fd_47_2_2_3 k_sz_3_1 rfl rfl) ?_
  refine sq 13 rfl rfl (Y_load1 (B := some ⟨b2, 0, none⟩) (i := 2) (cs := [vi r_1.A, vi r_1.B, vi r_1.C, vi r_1.D]) (v := vi r_1.C) k_sc_3 rfl rfl (hS5.cf (i := 2) rfl) rfl) ?_
  refine sq 14 rfl rfl (Y_quo (k := .i64) (a := r_1.C) (b := 2) rfl rfl rfl (by decide)) ?_
  refine sq 15 rfl rfl (Y_fieldAddr (B := some ⟨b2, 0, none⟩) (i := 0) (s := 0) k_fd_47_3_3_3 k_sz_3_1 rfl rfl) ?_
  refine sq 16 rfl rfl (Y_load1 (B := some ⟨b2, 0, none⟩) (i := 3) (cs := [vi r_1.A, vi r_1.B, vi r_1.C, vi r_1.D]) (v := vi r_1.D) k_sc_3 rfl rfl (hS5.cf (i := 2) rfl) rfl) ?_
  refine sq 17 rfl rfl (Y_quo (k := .i64) (a := r_1.D) (b := 2) rfl rfl rfl (by decide)) ?_
  refine sq 18 rfl rfl (Y_buildS (zs := [vi 0, vi 0, vi 0, vi 0]) (vs := [(0, vi (i64.wrap (Int.tdiv r_1.A 2))), (1, vi (i64.wrap (Int.tdiv r_1.B 2))), (2, vi (i64.wrap (Int.tdiv r_1.C 2))), (3, vi (i64.wrap (Int.tdiv r_1.D 2)))]) (cs := [vi (i64.wrap (Int.tdiv r_1.A 2)), vi (i64.wrap (Int.tdiv r_1.B 2)), vi (i64.wrap (Int.tdiv r_1.C 2)), vi (i64.wrap (Int.tdiv r_1.D 2))]) k_pl_47 k_zero_47 rfl (mpc rfl (mpc rfl (mpc rfl (mpc rfl mpn)))) rfl) ?_
  refine ss0 rfl rfl (Ys_store (i := 1) (s := 4) (B := some ⟨b1, 0, none⟩) (T' := 47) (v := .agg #[vi (i64.wrap (Int.tdiv r_1.A 2)), vi (i64.wrap (Int.tdiv r_1.B 2)), vi (i64.wrap (Int.tdiv r_1.C 2)), vi (i64.wrap (Int.tdiv r_1.D 2))]) (vs := [vi (i64.wrap (Int.tdiv r_1.A 2)), vi (i64.wrap (Int.tdiv r_1.B 2)), vi (i64.wrap (Int.tdiv r_1.C 2)), vi (i64.wrap (Int.tdiv r_1.D 2))]) (k := 0) (cs' := [vi (i64.wrap (Int.tdiv r_1.A 2)), vi (i64.wrap (Int.tdiv r_1.B 2)), vi (i64.wrap (Int.tdiv r_1.C 2)), vi (i64.wrap (Int.tdiv r_1.D 2))]) hS5 k_sz_47_4 rfl rfl rfl rfl rfl rfl rfl (Nat.le_of_ble_eq_true rfl) rfl rfl) ?_
  rintro _ w_5 ⟨rfl, hS6⟩
  have hS6 : ST w0 [] _ [⟨some ⟨b, 0, none⟩, 47, [vi x.A, vi x.B, vi x.C, vi x.D], 4⟩, ⟨some ⟨b1, 0, none⟩, 47, [vi (i64.wrap (Int.tdiv r_1.A 2)), vi (i64.wrap (Int.tdiv r_1.B 2)), vi (i64.wrap (Int.tdiv r_1.C 2)), vi (i64.wrap (Int.tdiv r_1.D 2))], 4⟩, ⟨some ⟨b2, 0, none⟩, 47, [vi r_1.A, vi r_1.B, vi r_1.C, vi r_1.D], 4⟩] [] := hS6
  refine rw_nil ?_
  refine cw_ret ?_
  obtain rfl := some_inj hF
  exact ret1 Tryd.results86 (v1 := .agg #[vi (i64.wrap (Int.tdiv r_1.A 2)), vi (i64.wrap (Int.tdiv r_1.B 2)), vi (i64.wrap (Int.tdiv r_1.C 2)), vi (i64.wrap (Int.tdiv r_1.D 2))]) (resAt_cellA (B := some ⟨b1, 0, none⟩) (i := 0) (cs := [vi (i64.wrap (Int.tdiv r_1.A 2)), vi (i64.wrap (Int.tdiv r_1.B 2)), vi (i64.wrap (Int.tdiv r_1.C 2)), vi (i64.wrap (Int.tdiv r_1.D 2))]) (vs := [vi (i64.wrap (Int.tdiv r_1.A 2)), vi (i64.wrap (Int.tdiv r_1.B 2)), vi (i64.wrap (Int.tdiv r_1.C 2)), vi (i64.wrap (Int.tdiv r_1.D 2))]) rfl k_ag_47 k_sz_47_4 (hS6.cf (i := 1) rfl) rfl rfl) ⟨rfl, (ST.subR (R' := []) (hS6.sel [] rfl rfl) (fun _ h => by cases h))⟩

theorem c_spec_l2Low (num : TRing) (exp : Int)  (w0 : World)  (hS : ST w0 [] w0 [] []) {r_ : TDyadic} (hF : F_spec_l2Low num exp = some r_) :
    CV Tryd.prog 54 #[.agg #[vi num.A, vi num.B, vi num.C, vi num.D], vi exp] w0 (fun v w' => v = .agg #[vi r_.Num.A, vi r_.Num.B, vi r_.Num.C, vi r_.Num.D, vi r_.Exp] ∧ ST w0 [] w' [] []) := by
  unfold F_spec_l2Low at hF
  refine cv_of_cw 18 Tryd.func54 rfl Tryd.ntmps54 rfl ?_
  refine cw_seq ?_
  refine cw_region ?_
  refine ss 2 rfl rfl (Ys_box (T := 47) (v := .agg #[vi num.A, vi num.B, vi num.C, vi num.D]) (cs := [vi num.A, vi num.B, vi num.C, vi num.D]) (m := 4) hS rfl rfl rfl rfl) ?_
  rintro _ w_ ⟨b, rfl, hS1⟩
  refine ss 4 rfl rfl (Ys_alloc (T := 49) (cs := [vi 0, vi 0, vi 0, vi 0, vi 0]) (m := 5) hS1 k_zero_49 rfl rfl rfl) ?_
  rintro _ w_1 ⟨b1, rfl, hS2⟩
  have hS2 : ST w0 [] _ [⟨some ⟨b, 0, none⟩, 47, [vi num.A, vi num.B, vi num.C, vi num.D], 4⟩, ⟨some ⟨b1, 0, none⟩, 49, [vi 0, vi 0, vi 0, vi 0, vi 0], 5⟩] [] := hS2
  refine rw_nil ?_
  refine cw_seq ?_
  obtain ⟨z, hz, hF1⟩ := bind_inv hF
  refine cw_block ?_
  refine cw_loop (fun k f w => ∃ (exp1 : Int) (A : Int) (B : Int) (C : Int) (D : Int), FF f [(1, vi exp1), (2, pt (some ⟨b, 0, none⟩) 0), (4, pt (some ⟨b1, 0, none⟩) 0)] ∧ ST w0 [] w [⟨some ⟨b, 0, none⟩, 47, [vi A, vi B, vi C, vi D], 4⟩, ⟨some ⟨b1, 0, none⟩, 49, [vi 0, vi 0, vi 0, vi 0, vi 0], 5⟩] [] ∧ whX F_spec_l2Low_l1 k (exp1, A, B, C, D) = some z) fuel ⟨exp, num.A, num.B, num.C, num.D, (FF.cons rfl (FF.cons rfl (FF.cons rfl FF.nil))), (hS2.sel [0, 1] rfl rfl), hz⟩ ?_
  rintro k_ f w ⟨exp1, A, B, C, D, hf, hS3, hL⟩
  obtain ⟨k_1, y, rfl, hb, hL1⟩ := whX_go hL
  unfold F_spec_l2Low_l1 at hb
  refine cw_seq ?_
  refine cw_seq ?_
  refine cw_region ?_
  refine sq 5 rfl rfl (Y_move (v := vi exp1) rfl (hf.get 1 0 rfl)) ?_
  refine sq 6 rfl rfl (Y_gt (k := .i64) (a := exp1) (b := 0) rfl rfl rfl) ?_
  refine sq 7 rfl rfl (Y_move (v := .bool (decide (0 < exp1))) rfl rfl) ?_
  refine sgq 8 (B := (decide (0 < exp1))) (v := .agg #[vi A, vi B, vi C, vi D]) rfl rfl (wt_t (gd_of (t := 7) (by kernel_rfl) rfl)) (fun hg => (Y_loadA (B := some ⟨b, 0, none⟩) (i := 0) (cs := [vi A, vi B, vi C, vi D]) (vs := [vi A, vi B, vi C, vi D]) k_ag_47 k_sz_47_4 rfl (hf.get 2 1 rfl) (hS3.cf (i := 0) rfl) rfl rfl)) ?_
  obtain ⟨r_1, hc, hb⟩ := bind_inv hb
  refine sgc 9 (B := (decide (0 < exp1))) (v := .bool r_1) (F := hS3.fn) rfl rfl (wt_t (gd_of (t := 7) (by kernel_rfl) rfl)) hS3 (fun hg1 => (Yc_func (g := 85) (vs := [.agg #[vi A, vi B, vi C, vi D]]) k_call_85 rfl (mc (gv_of (B := (decide (0 < exp1))) (v := .agg #[vi A, vi B, vi C, vi D]) hg1) mn) (CV.mono (c_spec_l1Even (TRing.mk A B C D) _  (hS3.inn0 [] rfl) (gb_inv hc hg1)) (by rintro _ _ ⟨rfl, h⟩; exact ⟨rfl, hS3.out00 h⟩)))) ?_
  rintro w_2 hS4
  have hS4 : ST _ _ w_2 _ _ := hS4
  refine sq 10 rfl rfl (Y_and (b := (decide (0 < exp1))) (z := r_1) rfl rfl rfl rfl) ?_
  refine rw_nil ?_
  refine cw_cond (b := ((decide (0 < exp1)) && r_1)) rfl (fun hb1 => ?_) (fun hb1 => ?_)
  · skip
    have hF2 := ct hb hb1
    refine cw_skip ?_
    refine cw_block ?_
    refine cw_seq ?_
    refine cw_region ?_
    refine sq 11 rfl rfl (Y_loadA (B := some ⟨b, 0, none⟩) (i := 0) (cs := [vi A, vi B, vi C, vi D]) (vs := [vi A, vi B, vi C, vi D]) k_ag_47 k_sz_47_4 rfl (hf.get 2 1 rfl) (hS4.cf (i := 0) rfl) rfl rfl) ?_
    obtain ⟨r_2, hc1, hF2⟩ := bind_inv hF2
    refine sc 12 rfl rfl (Yc_func (g := 86) (vs := [.agg #[vi A, vi B, vi C, vi D]]) k_call_86 rfl (mc rfl mn) (c_spec_l1Half (TRing.mk A B C D) _  (hS4.inn0 [] rfl) hc1)) ?_
    rintro _ w_3 ⟨rfl, hd⟩
    have hS5 := hS4.out00 hd
    have hS5 : ST w0 [] _ [⟨some ⟨b, 0, none⟩, 47, [vi A, vi B, vi C, vi D], 4⟩, ⟨some ⟨b1, 0, none⟩, 49, [vi 0, vi 0, vi 0, vi 0, vi 0], 5⟩] [] := hS5
    refine ss0 rfl rfl (Ys_store (i := 0) (s := 4) (B := some ⟨b, 0, none⟩) (T' := 47) (v := .agg #[vi r_2.A, vi r_2.B, vi r_2.C, vi r_2.D]) (vs := [vi r_2.A, vi r_2.B, vi r_2.C, vi r_2.D]) (k := 0) (cs' := [vi r_2.A, vi r_2.B, vi r_2.C, vi r_2.D]) hS5 k_sz_47_4 rfl (hf.get 2 1 rfl) rfl rfl rfl rfl rfl (Nat.le_of_ble_eq_true rfl) rfl rfl) ?_
    rintro _ w_4 ⟨rfl, hS6⟩
    have hS6 : ST w0 [] _ [⟨some ⟨b, 0, none⟩, 47, [vi r_2.A, vi r_2.B, vi r_2.C, vi r_2.D], 4⟩, ⟨some ⟨b1, 0, none⟩, 49, [vi 0, vi 0, vi 0, vi 0, vi 0], 5⟩] [] := hS6
    refine rw_nil ?_
    refine cw_region ?_
    refine sq 13 rfl rfl (Y_move (v := vi exp1) rfl (hf.get 1 0 rfl)) ?_
    refine sq 14 rfl rfl (Y_sub (k := .i64) (a := exp1) (b := 1) rfl rfl rfl) ?_
    refine sq 1 rfl rfl (Y_assign (v := vi (i64.wrap (exp1 - 1))) rfl rfl) ?_
    refine rw_nil ?_
    obtain rfl := some_inj hF2
    exact ⟨k_1, Nat.lt_succ_self _, (i64.wrap (exp1 - 1)), r_2.A, r_2.B, r_2.C, r_2.D, (FF.cons rfl (FF.cons (hf.get 2 1 rfl) (FF.cons (hf.get 4 2 rfl) FF.nil))), (hS6.sel [0, 1] rfl rfl), hL1⟩
  · skip
    have hF3 := cf' hb hb1
    refine cw_exit rfl ?_
    obtain rfl := some_inj hF3
    obtain rfl := some_inj hL1
    refine cw_seq ?_
    refine cw_region ?_
    refine sq 15 rfl rfl (Y_loadA (B := some ⟨b, 0, none⟩) (i := 0) (cs := [vi A, vi B, vi C, vi D]) (vs := [vi A, vi B, vi C, vi D]) k_ag_47 k_sz_47_4 rfl (hf.get 2 1 rfl) (hS4.cf (i := 0) rfl) rfl rfl) ?_
    refine sq 16 rfl rfl (Y_move (v := vi exp1) rfl (hf.get 1 0 rfl)) ?_
    refine sq 17 rfl rfl (Y_buildS (zs := [vi 0, vi 0, vi 0, vi 0, vi 0]) (vs := [(0, .agg #[vi A, vi B, vi C, vi D]), (1, vi exp1)]) (cs := [vi A, vi B, vi C, vi D, vi exp1]) k_pl_49 k_zero_49 rfl (mpc rfl (mpc rfl mpn)) rfl) ?_
    refine ss0 rfl rfl (Ys_store (i := 1) (s := 5) (B := some ⟨b1, 0, none⟩) (T' := 49) (v := .agg #[vi A, vi B, vi C, vi D, vi exp1]) (vs := [vi A, vi B, vi C, vi D, vi exp1]) (k := 0) (cs' := [vi A, vi B, vi C, vi D, vi exp1]) hS4 k_sz_49_5 rfl (hf.get 4 2 rfl) rfl rfl rfl rfl rfl (Nat.le_of_ble_eq_true rfl) rfl rfl) ?_
    rintro _ w_5 ⟨rfl, hS7⟩
    have hS7 : ST w0 [] _ [⟨some ⟨b, 0, none⟩, 47, [vi A, vi B, vi C, vi D], 4⟩, ⟨some ⟨b1, 0, none⟩, 49, [vi A, vi B, vi C, vi D, vi exp1], 5⟩] [] := hS7
    refine rw_nil ?_
    refine cw_ret ?_
    obtain rfl := some_inj hF1
    exact ret1 Tryd.results54 (v1 := .agg #[vi A, vi B, vi C, vi D, vi exp1]) (resAt_cellA (B := some ⟨b1, 0, none⟩) (i := 0) (cs := [vi A, vi B, vi C, vi D, vi exp1]) (vs := [vi A, vi B, vi C, vi D, vi exp1]) (hf.get 4 2 rfl) k_ag_49 k_sz_49_5 (hS7.cf (i := 1) rfl) rfl rfl) ⟨rfl, (ST.subR (R' := []) (hS7.sel [] rfl rfl) (fun _ h => by cases h))⟩

theorem c_spec_l1Add (x : TRing) (y : TRing)  (w0 : World)  (hS : ST w0 [] w0 [] []) {r_ : TRing} (hF : F_spec_l1Add x y = some r_) :
    CV Tryd.prog 55 #[.agg #[vi x.A, vi x.B, vi x.C, vi x.D], .agg #[vi y.A, vi y.B, vi y.C, vi y.D]] w0 (fun v w' => v = .agg #[vi r_.A, vi r_.B, vi r_.C, vi r_.D] ∧ ST w0 [] w' [] []) := by
  unfold F_spec_l1Add at hF
  refine cv_of_cw 26 Tryd.func55 rfl Tryd.ntmps55 rfl ?_
  refine cw_seq ?_
  refine cw_region ?_
  refine ss 2 rfl rfl (Ys_box (T := 47) (v := .agg #[vi x.A, vi x.B, vi x.C, vi x.D]) (cs := [vi x.A, vi x.B, vi x.C, vi x.D]) (m := 4) hS rfl rfl rfl rfl) ?_
  rintro _ w_ ⟨b, rfl, hS1⟩
  refine ss 3 rfl rfl (Ys_box (T := 47) (v := .agg #[vi y.A, vi y.B, vi y.C, vi y.D]) (cs := [vi y.A, vi y.B, vi y.C, vi y.D]) (m := 4) hS1 rfl rfl rfl rfl) ?_
  rintro _ w_1 ⟨b1, rfl, hS2⟩
  have hS2 : ST w0 [] _ [⟨some ⟨b, 0, none⟩, 47, [vi x.A, vi x.B, vi x.C, vi x.D], 4⟩, ⟨some ⟨b1, 0, none⟩, 47, [vi y.A, vi y.B, vi y.C, vi y.D], 4⟩] [] := hS2
  refine ss 4 rfl rfl (Ys_alloc (T := 47) (cs := [vi 0, vi 0, vi 0, vi 0]) (m := 4) hS2 k_zero_47 rfl rfl rfl) ?_
  rintro _ w_2 ⟨b2, rfl, hS3⟩
  have hS3 : ST w0 [] _ [⟨some ⟨b, 0, none⟩, 47, [vi x.A, vi x.B, vi x.C, vi x.D], 4⟩, ⟨some ⟨b1, 0, none⟩, 47, [vi y.A, vi y.B, vi y.C, vi y.D], 4⟩, ⟨some ⟨b2, 0, none⟩, 47, [vi 0, vi 0, vi 0, vi 0], 4⟩] [] := hS3
  refine rw_nil ?_
  refine cw_seq ?_
  refine cw_region ?_
  refine sq 5 rfl rfl (Y_fieldAddr (B := some ⟨b, 0, none⟩) (i := 0) (s := 0) k_fd_47_0_0_3 k_sz_3_1 rfl rfl) ?_
  refine sq 6 rfl rfl (Y_load1 (B := some ⟨b, 0, none⟩) (i := 0) (cs := [vi x.A, vi x.B, vi x.C, vi x.D]) (v := vi x.A) k_sc_3 rfl rfl (hS3.cf (i := 0) rfl) rfl) ?_
  refine sq 7 rfl rfl (Y_fieldAddr (B := some ⟨b1, 0, none⟩) (i := 0) (s := 0) k_fd_47_0_0_3 k_sz_3_1 rfl rfl) ?_
  refine sq 8 rfl rfl (Y_load1 (B := some ⟨b1, 0, none⟩) (i := 0) (cs := [vi y.A, vi y.B, vi y.C, vi y.D]) (v := vi y.A) k_sc_3 rfl rfl (hS3.cf (i := 1) rfl) rfl) ?_
  refine sq 9 rfl rfl (Y_add (k := .i64) (a := x.A) (b := y.A) rfl rfl rfl) ?_
  refine sq 10 rfl rfl (Y_fieldAddr (B := some ⟨b, 0, none⟩) (i := 0) (s := 0) k_fd_47_1_1_3 k_sz_3_1 rfl rfl) ?_
  refine sq 11 rfl rfl (Y_load1 (B := some ⟨b, 0, none⟩) (i := 1) (cs := [vi x.A, vi x.B, vi x.C, vi x.D]) (v := vi x.B) k_sc_3 rfl rfl (hS3.cf (i := 0) rfl) rfl) ?_
  refine sq 12 rfl rfl (Y_fieldAddr (B := some ⟨b1, 0, none⟩) (i := 0) (s := 0) k_fd_47_1_1_3 k_sz_3_1 rfl rfl) ?_
  refine sq 13 rfl rfl (Y_load1 (B := some ⟨b1, 0, none⟩) (i := 1) (cs := [vi y.A, vi y.B, vi y.C, vi y.D]) (v := vi y.B) k_sc_3 rfl rfl (hS3.cf (i := 1) rfl) rfl) ?_
  refine sq 14 rfl rfl (Y_add (k := .i64) (a := x.B) (b := y.B) rfl rfl rfl) ?_
  refine sq 15 rfl rfl (Y_fieldAddr (B := some ⟨b, 0, none⟩) (i := 0) (s := 0) k_fd_47_2_2_3 k_sz_3_1 rfl rfl) ?_
  refine sq 16 rfl rfl (Y_load1 (B := some ⟨b, 0, none⟩) (i := 2) (cs := [vi x.A, vi x.B, vi x.C, vi x.D]) (v := vi x.C) k_sc_3 rfl rfl (hS3.cf (i := 0) rfl) rfl) ?_
  refine sq 17 rfl rfl (Y_fieldAddr (B := some ⟨b1, 0, none⟩) (i := 0) (s := 0) k_fd_47_2_2_3 k_sz_3_1 rfl rfl) ?_
  refine sq 18 rfl rfl (Y_load1 (B := some ⟨b1, 0, none⟩) (i := 2) (cs := [vi y.A, vi y.B, vi y.C, vi y.D]) (v := vi y.C) k_sc_3 rfl rfl (hS3.cf (i := 1) rfl) rfl) ?_
  refine sq 19 rfl rfl (Y_add (k := .i64) (a := x.C) (b := y.C) rfl rfl rfl) ?_
  refine sq 20 rfl rfl (Y_fieldAddr (B := some ⟨b, 0, none⟩) (i := 0) (s := 0) k_fd_47_3_3_3 k_sz_3_1 rfl rfl) ?_
  refine sq 21 rfl rfl (Y_load1 (B := some ⟨b, 0, none⟩) (i := 3) (cs := [vi x.A, vi x.B, vi x.C, vi x.D]) (v := vi x.D) k_sc_3 rfl rfl (hS3.cf (i := 0) rfl) rfl) ?_
  refine sq 22 rfl rfl (Y_fieldAddr (B := some ⟨b1, 0, none⟩) (i := 0) (s := 0) k_fd_47_3_3_3 k_sz_3_1 rfl rfl) ?_
  refine sq 23 rfl rfl (Y_load1 (B := some ⟨b1, 0, none⟩) (i := 3) (cs := [vi y.A, vi y.B, vi y.C, vi y.D]) (v := vi y.D) k_sc_3 rfl rfl (hS3.cf (i := 1) rfl) rfl) ?_
  refine sq 24 rfl rfl (Y_add (k := .i64) (a := x.D) (b := y.D) rfl rfl rfl) ?_
  refine sq 25 rfl rfl (Y_buildS (zs := [vi 0, vi 0, vi 0, vi 0]) (vs := [(0, vi (i64.wrap (x.A + y.A))), (1, vi (i64.wrap (x.B + y.B))), (2, vi (i64.wrap (x.C + y.C))), (3, vi (i64.wrap (x.D + y.D)))]) (cs := [vi (i64.wrap (x.A + y.A)), vi (i64.wrap (x.B + y.B)), vi (i64.wrap (x.C + y.C)), vi (i64.wrap (x.D + y.D))]) k_pl_47 k_zero_47 rfl (mpc rfl (mpc rfl (mpc rfl (mpc rfl mpn)))) rfl) ?_
  refine ss0 rfl rfl (Ys_store (i := 2) (s := 4) (B := some ⟨b2, 0, none⟩) (T' := 47) (v := .agg #[vi (i64.wrap (x.A + y.A)), vi (i64.wrap (x.B + y.B)), vi (i64.wrap (x.C + y.C)), vi (i64.wrap (x.D + y.D))]) (vs := [vi (i64.wrap (x.A + y.A)), vi (i64.wrap (x.B + y.B)), vi (i64.wrap (x.C + y.C)), vi (i64.wrap (x.D + y.D))]) (k := 0) (cs' := [vi (i64.wrap (x.A + y.A)), vi (i64.wrap (x.B + y.B)), vi (i64.wrap (x.C + y.C)), vi (i64.wrap (x.D + y.D))]) hS3 k_sz_47_4 rfl rfl rfl rfl rfl rfl rfl (Nat.le_of_ble_eq_true rfl) rfl rfl) ?_
  rintro _ w_3 ⟨rfl, hS4⟩
  have hS4 : ST w0 [] _ [⟨some ⟨b, 0, none⟩, 47, [vi x.A, vi x.B, vi x.C, vi x.D], 4⟩, ⟨some ⟨b1, 0, none⟩, 47, [vi y.A, vi y.B, vi y.C, vi y.D], 4⟩, ⟨some ⟨b2, 0, none⟩, 47, [vi (i64.wrap (x.A + y.A)), vi (i64.wrap (x.B + y.B)), vi (i64.wrap (x.C + y.C)), vi (i64.wrap (x.D + y.D))], 4⟩] [] := hS4
  refine rw_nil ?_
  refine cw_ret ?_
  obtain rfl := some_inj hF
  exact ret1 Tryd.results55 (v1 := .agg #[vi (i64.wrap (x.A + y.A)), vi (i64.wrap (x.B + y.B)), vi (i64.wrap (x.C + y.C)), vi (i64.wrap (x.D + y.D))]) (resAt_cellA (B := some ⟨b2, 0, none⟩) (i := 0) (cs := [vi (i64.wrap (x.A + y.A)), vi (i64.wrap (x.B + y.B)), vi (i64.wrap (x.C + y.C)), vi (i64.wrap (x.D + y.D))]) (vs := [vi (i64.wrap (x.A + y.A)), vi (i64.wrap (x.B + y.B)), vi (i64.wrap (x.C + y.C)), vi (i64.wrap (x.D + y.D))]) rfl k_ag_47 k_sz_47_4 (hS4.cf (i := 2) rfl) rfl rfl) ⟨rfl, (ST.subR (R' := []) (hS4.sel [] rfl rfl) (fun _ h => by cases h))⟩

theorem c_spec_l2C_add (c : Tl2C) (x : TDyadic) (y : TDyadic) (B : Option Addr) (w0 : World)  (hS : ST w0 (bl [⟨B, 59, [.bool c.bad], 1⟩]) w0 [⟨B, 59, [.bool c.bad], 1⟩] []) {r_ : TDyadic} {m : Tl2C} (hF : F_spec_l2C_add c x y = some (r_, m)) :
    CV Tryd.prog 32 #[pt B 0, .agg #[vi x.Num.A, vi x.Num.B, vi x.Num.C, vi x.Num.D, vi x.Exp], .agg #[vi y.Num.A, vi y.Num.B, vi y.Num.C, vi y.Num.D, vi y.Exp]] w0 (fun v w' => v = .agg #[vi r_.Num.A, vi r_.Num.B, vi r_.Num.C, vi r_.Num.D, vi r_.Exp] ∧ ST w0 (bl [⟨B, 59, [.bool c.bad], 1⟩]) w' [⟨B, 59, [.bool m.bad], 1⟩] []) := by
  unfold F_spec_l2C_add at hF
  refine cv_of_cw 45 Tryd.func32 rfl Tryd.ntmps32 rfl ?_
  refine cw_seq ?_
  refine cw_region ?_
  refine ss 4 rfl rfl (Ys_box (T := 49) (v := .agg #[vi x.Num.A, vi x.Num.B, vi x.Num.C, vi x.Num.D, vi x.Exp]) (cs := [vi x.Num.A, vi x.Num.B, vi x.Num.C, vi x.Num.D, vi x.Exp]) (m := 5) hS rfl rfl rfl rfl) ?_
  rintro _ w_ ⟨b, rfl, hS1⟩
  have hS1 : ST w0 (bl [⟨B, 59, [.bool c.bad], 1⟩]) _ [⟨B, 59, [.bool c.bad], 1⟩, ⟨some ⟨b, 0, none⟩, 49, [vi x.Num.A, vi x.Num.B, vi x.Num.C, vi x.Num.D, vi x.Exp], 5⟩] [] := hS1
  refine ss 5 rfl rfl (Ys_box (T := 49) (v := .agg #[vi y.Num.A, vi y.Num.B, vi y.Num.C, vi y.Num.D, vi y.Exp]) (cs := [vi y.Num.A, vi y.Num.B, vi y.Num.C, vi y.Num.D, vi y.Exp]) (m := 5) hS1 rfl rfl rfl rfl) ?_
  rintro _ w_1 ⟨b1, rfl, hS2⟩
  have hS2 : ST w0 (bl [⟨B, 59, [.bool c.bad], 1⟩]) _ [⟨B, 59, [.bool c.bad], 1⟩, ⟨some ⟨b, 0, none⟩, 49, [vi x.Num.A, vi x.Num.B, vi x.Num.C, vi x.Num.D, vi x.Exp], 5⟩, ⟨some ⟨b1, 0, none⟩, 49, [vi y.Num.A, vi y.Num.B, vi y.Num.C, vi y.Num.D, vi y.Exp], 5⟩] [] := hS2
  refine ss 6 rfl rfl (Ys_alloc (T := 49) (cs := [vi 0, vi 0, vi 0, vi 0, vi 0]) (m := 5) hS2 k_zero_49 rfl rfl rfl) ?_
  rintro _ w_2 ⟨b2, rfl, hS3⟩
  have hS3 : ST w0 (bl [⟨B, 59, [.bool c.bad], 1⟩]) _ [⟨B, 59, [.bool c.bad], 1⟩, ⟨some ⟨b, 0, none⟩, 49, [vi x.Num.A, vi x.Num.B, vi x.Num.C, vi x.Num.D, vi x.Exp], 5⟩, ⟨some ⟨b1, 0, none⟩, 49, [vi y.Num.A, vi y.Num.B, vi y.Num.C, vi y.Num.D, vi y.Exp], 5⟩, ⟨some ⟨b2, 0, none⟩, 49, [vi 0, vi 0, vi 0, vi 0, vi 0], 5⟩] [] := hS3
  refine rw_nil ?_
  refine cw_seq ?_
  obtain ⟨z, hz, hF1⟩ := bind_inv hF
  refine cw_block ?_
  refine cw_loop (fun k f w => ∃ (bad : Bool) (A : Int) (B1 : Int) (C : Int) (D : Int) (Exp : Int), FF f [(0, pt B 0), (4, pt (some ⟨b, 0, none⟩) 0), (5, pt (some ⟨b1, 0, none⟩) 0), (6, pt (some ⟨b2, 0, none⟩) 0)] ∧ ST w0 (bl [⟨B, 59, [.bool c.bad], 1⟩]) w [⟨B, 59, [.bool bad], 1⟩, ⟨some ⟨b, 0, none⟩, 49, [vi A, vi B1, vi C, vi D, vi Exp], 5⟩, ⟨some ⟨b1, 0, none⟩, 49, [vi y.Num.A, vi y.Num.B, vi y.Num.C, vi y.Num.D, vi y.Exp], 5⟩, ⟨some ⟨b2, 0, none⟩, 49, [vi 0, vi 0, vi 0, vi 0, vi 0], 5⟩] [] ∧ whX (F_spec_l2C_add_l1 y) k (bad, A, B1, C, D, Exp) = some z) fuel ⟨c.bad, x.Num.A, x.Num.B, x.Num.C, x.Num.D, x.Exp, (FF.cons rfl (FF.cons rfl (FF.cons rfl (FF.cons rfl FF.nil)))), (hS3.sel [0, 1, 2, 3] rfl rfl), hz⟩ ?_
  rintro k_ f w ⟨bad, A, B1, C, D, Exp, hf, hS4, hL⟩
  obtain ⟨k_1, y1, rfl, hb, hL1⟩ := whX_go hL
  unfold F_spec_l2C_add_l1 at hb
  refine cw_seq ?_
  refine cw_seq ?_
  refine cw_region ?_
  refine sq 7 rfl rfl (Y_fieldAddr (B := some ⟨b, 0, none⟩) (i := 0) (s := 0) k_fd_49_1_4_3 k_sz_3_1 rfl (hf.get 4 1 rfl)) ?_
  refine sq 8 rfl rfl (Y_load1 (B := some ⟨b, 0, none⟩) (i := 4) (cs := [vi A, vi B1, vi C, vi D, vi Exp]) (v := vi Exp) k_sc_3 rfl rfl (hS4.cf (i := 1) rfl) rfl) ?_
  refine sq 9 rfl rfl (Y_fieldAddr (B := some ⟨b1, 0, none⟩) (i := 0) (s := 0) k_fd_49_1_4_3 k_sz_3_1 rfl (hf.get 5 2 rfl)) ?_
  refine sq 10 rfl rfl (Y_load1 (B := some ⟨b1, 0, none⟩) (i := 4) (cs := [vi y.Num.A, vi y.Num.B, vi y.Num.C, vi y.Num.D, vi y.Exp]) (v := vi y.Exp) k_sc_3 rfl rfl (hS4.cf (i := 2) rfl) rfl) ?_
  refine sq 11 rfl rfl (Y_lt (k := .i64) (a := Exp) (b := y.Exp) rfl rfl rfl) ?_
  refine rw_nil ?_
  refine cw_cond (b := (decide (Exp < y.Exp))) rfl (fun hb1 => ?_) (fun hb1 => ?_)
  · skip
    have hF2 := ct hb hb1
    refine cw_skip ?_
    refine cw_block ?_
    obtain ⟨r_1, hc, hF2⟩ := bind_inv hF2
    obtain ⟨⟨r_2, m1⟩, hc1, hF2⟩ := bind_inv hF2
    refine cw_mid (fun f w => FF f [(0, pt B 0), (4, pt (some ⟨b, 0, none⟩) 0), (5, pt (some ⟨b1, 0, none⟩) 0), (6, pt (some ⟨b2, 0, none⟩) 0)] ∧ ST w0 (bl [⟨B, 59, [.bool c.bad], 1⟩]) w [⟨B, 59, [.bool m1.bad], 1⟩, ⟨some ⟨b, 0, none⟩, 49, [vi r_2.A, vi r_2.B, vi r_2.C, vi r_2.D, vi (i64.wrap (Exp + 1))], 5⟩, ⟨some ⟨b1, 0, none⟩, 49, [vi y.Num.A, vi y.Num.B, vi y.Num.C, vi y.Num.D, vi y.Exp], 5⟩, ⟨some ⟨b2, 0, none⟩, 49, [vi 0, vi 0, vi 0, vi 0, vi 0], 5⟩] []) ?_ ?_
    · skip
      refine ra_start (ST.sel hS4 [2, 3] rfl rfl).fn (by kernel_rfl) ?_
      have hS8 := hS4.drew
      refine ra_q 0 12 (v := pt B 0) rfl rfl rfl (by kernel_rfl) (by kernel_rfl) (by kernel_rfl) (ST.sel hS8 [2, 3] rfl rfl) (fun w' hw' => (Y_move (v := pt B 0) rfl (hf.get 0 0 rfl))) ?_
      refine ra_q 1 13 (v := pt (some ⟨b, 0, none⟩) 0) rfl rfl rfl (by kernel_rfl) (by kernel_rfl) (by kernel_rfl) (ST.sel hS8 [2, 3] rfl rfl) (fun w' hw' => (Y_fieldAddr (B := some ⟨b, 0, none⟩) (i := 0) (s := 3) k_fd_49_0_0_47 k_sz_47_4 rfl (hf.get 4 1 rfl))) ?_
      refine ra_q 5 17 (v := pt (some ⟨b, 0, none⟩) 4) rfl rfl rfl (by kernel_rfl) (by kernel_rfl) (by kernel_rfl) (ST.sel hS8 [2, 3] rfl rfl) (fun w' hw' => (Y_fieldAddr (B := some ⟨b, 0, none⟩) (i := 0) (s := 0) k_fd_49_1_4_3 k_sz_3_1 rfl (hf.get 4 1 rfl))) ?_
      refine ra_all (rs := [2, 6]) (by kernel_rfl) rfl ?_
      refine ra_y 14 (i := 2) (v := .agg #[vi A, vi B1, vi C, vi D]) rfl rfl rfl (Y_loadA (B := some ⟨b, 0, none⟩) (i := 0) (cs := [vi A, vi B1, vi C, vi D, vi Exp]) (vs := [vi A, vi B1, vi C, vi D]) k_ag_47 k_sz_47_4 rfl rfl (hS8.cf (i := 1) rfl) rfl rfl) (ST.sel hS8 [2, 3] rfl rfl) ?_ ?_
      · skip
        refine ra_all (rs := [3, 6]) (by kernel_rfl) rfl ?_
        refine ra_c 15 (i := 3) rfl rfl rfl (Yc_func (g := 53) (vs := [.agg #[vi A, vi B1, vi C, vi D]]) k_call_53 rfl (mc rfl mn) (c_spec_l1Root (TRing.mk A B1 C D) _  (hS8.inn0 [] rfl) hc)) ?_ ?_
        · rintro _ w_3 ⟨rfl, hd⟩
          have hS9 := hS8.out00 hd
          have hS9 : ST w0 (bl [⟨B, 59, [.bool c.bad], 1⟩]) _ [⟨B, 59, [.bool bad], 1⟩, ⟨some ⟨b, 0, none⟩, 49, [vi A, vi B1, vi C, vi D, vi Exp], 5⟩, ⟨some ⟨b1, 0, none⟩, 49, [vi y.Num.A, vi y.Num.B, vi y.Num.C, vi y.Num.D, vi y.Exp], 5⟩, ⟨some ⟨b2, 0, none⟩, 49, [vi 0, vi 0, vi 0, vi 0, vi 0], 5⟩] [] := hS9
          refine ⟨(ST.sel hS9 [2, 3] rfl rfl), ?_⟩
          refine ra_all (rs := [4, 6]) (by kernel_rfl) rfl ?_
          refine ra_c 16 (i := 4) rfl rfl rfl (Yc_func (g := 52) (vs := [pt B 0, .agg #[vi r_1.A, vi r_1.B, vi r_1.C, vi r_1.D]]) k_call_52 rfl (mc rfl (mc rfl mn)) (c_spec_l2C_ring (Tl2C.mk bad) r_1 B _  (hS9.inn [true, false, false, false] rfl [] rfl) hc1)) ?_ ?_
          · rintro _ w_4 ⟨rfl, hd1⟩
            have hS10 := hS9.out [true, false, false, false] rfl hd1
            have hS10 : ST w0 (bl [⟨B, 59, [.bool c.bad], 1⟩]) _ [⟨some ⟨b, 0, none⟩, 49, [vi A, vi B1, vi C, vi D, vi Exp], 5⟩, ⟨some ⟨b1, 0, none⟩, 49, [vi y.Num.A, vi y.Num.B, vi y.Num.C, vi y.Num.D, vi y.Exp], 5⟩, ⟨some ⟨b2, 0, none⟩, 49, [vi 0, vi 0, vi 0, vi 0, vi 0], 5⟩, ⟨B, 59, [.bool m1.bad], 1⟩] [] := hS10
            refine ⟨(ST.sel hS10 [1, 2] rfl rfl), ?_⟩
            refine ra_all (rs := [6]) (by kernel_rfl) rfl ?_
            refine ra_y 18 (i := 6) (v := vi Exp) rfl rfl rfl (Y_load1 (B := some ⟨b, 0, none⟩) (i := 4) (cs := [vi A, vi B1, vi C, vi D, vi Exp]) (v := vi Exp) k_sc_3 rfl rfl (hS10.cf (i := 0) rfl) rfl) (ST.sel hS10 [1, 2] rfl rfl) ?_ ?_
            · skip
              refine ra_q 7 19 (v := vi (i64.wrap (Exp + 1))) rfl rfl rfl (by kernel_rfl) (by kernel_rfl) (by kernel_rfl) (ST.sel hS10 [1, 2] rfl rfl) (fun w' hw' => (Y_add (k := .i64) (a := Exp) (b := 1) rfl rfl rfl)) ?_
              refine ra_q 8 20 (v := .agg #[vi r_2.A, vi r_2.B, vi r_2.C, vi r_2.D, vi (i64.wrap (Exp + 1))]) rfl rfl rfl (by kernel_rfl) (by kernel_rfl) (by kernel_rfl) (ST.sel hS10 [1, 2] rfl rfl) (fun w' hw' => (Y_buildS (zs := [vi 0, vi 0, vi 0, vi 0, vi 0]) (vs := [(0, .agg #[vi r_2.A, vi r_2.B, vi r_2.C, vi r_2.D]), (1, vi (i64.wrap (Exp + 1)))]) (cs := [vi r_2.A, vi r_2.B, vi r_2.C, vi r_2.D, vi (i64.wrap (Exp + 1))]) k_pl_49 k_zero_49 rfl (mpc rfl (mpc rfl mpn)) rfl)) ?_
              refine ra_all (rs := [9]) (by kernel_rfl) rfl ?_
              refine ra_s0 (i := 9) rfl rfl rfl (Ys_store (i := 0) (s := 5) (B := some ⟨b, 0, none⟩) (T' := 49) (v := .agg #[vi r_2.A, vi r_2.B, vi r_2.C, vi r_2.D, vi (i64.wrap (Exp + 1))]) (vs := [vi r_2.A, vi r_2.B, vi r_2.C, vi r_2.D, vi (i64.wrap (Exp + 1))]) (k := 0) (cs' := [vi r_2.A, vi r_2.B, vi r_2.C, vi r_2.D, vi (i64.wrap (Exp + 1))]) hS10 k_sz_49_5 rfl (hf.get 4 1 rfl) rfl rfl rfl rfl rfl (Nat.le_of_ble_eq_true rfl) rfl rfl) ?_ ?_
              · rintro _ w_5 ⟨rfl, hS11⟩
                have hS11 : ST w0 (bl [⟨B, 59, [.bool c.bad], 1⟩]) _ [⟨some ⟨b, 0, none⟩, 49, [vi r_2.A, vi r_2.B, vi r_2.C, vi r_2.D, vi (i64.wrap (Exp + 1))], 5⟩, ⟨some ⟨b1, 0, none⟩, 49, [vi y.Num.A, vi y.Num.B, vi y.Num.C, vi y.Num.D, vi y.Exp], 5⟩, ⟨some ⟨b2, 0, none⟩, 49, [vi 0, vi 0, vi 0, vi 0, vi 0], 5⟩, ⟨B, 59, [.bool m1.bad], 1⟩] [] := hS11
                refine ⟨(ST.sel hS11 [1, 2] rfl rfl), ?_⟩
                refine ra_done (by kernel_rfl) ?_
                exact ⟨(FF.cons (hf.get 0 0 rfl) (FF.cons (hf.get 4 1 rfl) (FF.cons (hf.get 5 2 rfl) (FF.cons (hf.get 6 3 rfl) FF.nil)))), (hS11.sel [3, 0, 1, 2] rfl rfl)⟩
              exact allR_nil
            exact allR_nil
          refine ra_y 18 (i := 6) (v := vi Exp) rfl rfl rfl (Y_load1 (B := some ⟨b, 0, none⟩) (i := 4) (cs := [vi A, vi B1, vi C, vi D, vi Exp]) (v := vi Exp) k_sc_3 rfl rfl (hS9.cf (i := 1) rfl) rfl) (ST.sel hS9 [2, 3] rfl rfl) ?_ ?_
          · skip
            refine ra_q 7 19 (v := vi (i64.wrap (Exp + 1))) rfl rfl rfl (by kernel_rfl) (by kernel_rfl) (by kernel_rfl) (ST.sel hS9 [2, 3] rfl rfl) (fun w' hw' => (Y_add (k := .i64) (a := Exp) (b := 1) rfl rfl rfl)) ?_
            refine ra_all (rs := [4]) (by kernel_rfl) rfl ?_
            refine ra_c 16 (i := 4) rfl rfl rfl (Yc_func (g := 52) (vs := [pt B 0, .agg #[vi r_1.A, vi r_1.B, vi r_1.C, vi r_1.D]]) k_call_52 rfl (mc rfl (mc rfl mn)) (c_spec_l2C_ring (Tl2C.mk bad) r_1 B _  (hS9.inn [true, false, false, false] rfl [] rfl) hc1)) ?_ ?_
            · rintro _ w_6 ⟨rfl, hd2⟩
              have hS12 := hS9.out [true, false, false, false] rfl hd2
              have hS12 : ST w0 (bl [⟨B, 59, [.bool c.bad], 1⟩]) _ [⟨some ⟨b, 0, none⟩, 49, [vi A, vi B1, vi C, vi D, vi Exp], 5⟩, ⟨some ⟨b1, 0, none⟩, 49, [vi y.Num.A, vi y.Num.B, vi y.Num.C, vi y.Num.D, vi y.Exp], 5⟩, ⟨some ⟨b2, 0, none⟩, 49, [vi 0, vi 0, vi 0, vi 0, vi 0], 5⟩, ⟨B, 59, [.bool m1.bad], 1⟩] [] := hS12
              refine ⟨(ST.sel hS12 [1, 2] rfl rfl), ?_⟩
              refine ra_q 8 20 (v := .agg #[vi r_2.A, vi r_2.B, vi r_2.C, vi r_2.D, vi (i64.wrap (Exp + 1))]) rfl rfl rfl (by kernel_rfl) (by kernel_rfl) (by kernel_rfl) (ST.sel hS12 [1, 2] rfl rfl) (fun w' hw' => (Y_buildS (zs := [vi 0, vi 0, vi 0, vi 0, vi 0]) (vs := [(0, .agg #[vi r_2.A, vi r_2.B, vi r_2.C, vi r_2.D]), (1, vi (i64.wrap (Exp + 1)))]) (cs := [vi r_2.A, vi r_2.B, vi r_2.C, vi r_2.D, vi (i64.wrap (Exp + 1))]) k_pl_49 k_zero_49 rfl (mpc rfl (mpc rfl mpn)) rfl)) ?_
              refine ra_all (rs := [9]) (by kernel_rfl) rfl ?_
              refine ra_s0 (i := 9) rfl rfl rfl (Ys_store (i := 0) (s := 5) (B := some ⟨b, 0, none⟩) (T' := 49) (v := .agg #[vi r_2.A, vi r_2.B, vi r_2.C, vi r_2.D, vi (i64.wrap (Exp + 1))]) (vs := [vi r_2.A, vi r_2.B, vi r_2.C, vi r_2.D, vi (i64.wrap (Exp + 1))]) (k := 0) (cs' := [vi r_2.A, vi r_2.B, vi r_2.C, vi r_2.D, vi (i64.wrap (Exp + 1))]) hS12 k_sz_49_5 rfl (hf.get 4 1 rfl) rfl rfl rfl rfl rfl (Nat.le_of_ble_eq_true rfl) rfl rfl) ?_ ?_
              · rintro _ w_7 ⟨rfl, hS13⟩
                have hS13 : ST w0 (bl [⟨B, 59, [.bool c.bad], 1⟩]) _ [⟨some ⟨b, 0, none⟩, 49, [vi r_2.A, vi r_2.B, vi r_2.C, vi r_2.D, vi (i64.wrap (Exp + 1))], 5⟩, ⟨some ⟨b1, 0, none⟩, 49, [vi y.Num.A, vi y.Num.B, vi y.Num.C, vi y.Num.D, vi y.Exp], 5⟩, ⟨some ⟨b2, 0, none⟩, 49, [vi 0, vi 0, vi 0, vi 0, vi 0], 5⟩, ⟨B, 59, [.bool m1.bad], 1⟩] [] := hS13
                refine ⟨(ST.sel hS13 [1, 2] rfl rfl), ?_⟩
                refine ra_done (by kernel_rfl) ?_
                exact ⟨(FF.cons (hf.get 0 0 rfl) (FF.cons (hf.get 4 1 rfl) (FF.cons (hf.get 5 2 rfl) (FF.cons (hf.get 6 3 rfl) FF.nil)))), (hS13.sel [3, 0, 1, 2] rfl rfl)⟩
              exact allR_nil
            exact allR_nil
          exact allR_nil
        refine ra_y 18 (i := 6) (v := vi Exp) rfl rfl rfl (Y_load1 (B := some ⟨b, 0, none⟩) (i := 4) (cs := [vi A, vi B1, vi C, vi D, vi Exp]) (v := vi Exp) k_sc_3 rfl rfl (hS8.cf (i := 1) rfl) rfl) (ST.sel hS8 [2, 3] rfl rfl) ?_ ?_
        · skip
          refine ra_q 7 19 (v := vi (i64.wrap (Exp + 1))) rfl rfl rfl (by kernel_rfl) (by kernel_rfl) (by kernel_rfl) (ST.sel hS8 [2, 3] rfl rfl) (fun w' hw' => (Y_add (k := .i64) (a := Exp) (b := 1) rfl rfl rfl)) ?_
          refine ra_all (rs := [3]) (by kernel_rfl) rfl ?_
          refine ra_c 15 (i := 3) rfl rfl rfl (Yc_func (g := 53) (vs := [.agg #[vi A, vi B1, vi C, vi D]]) k_call_53 rfl (mc rfl mn) (c_spec_l1Root (TRing.mk A B1 C D) _  (hS8.inn0 [] rfl) hc)) ?_ ?_
          · rintro _ w_8 ⟨rfl, hd3⟩
            have hS14 := hS8.out00 hd3
            have hS14 : ST w0 (bl [⟨B, 59, [.bool c.bad], 1⟩]) _ [⟨B, 59, [.bool bad], 1⟩, ⟨some ⟨b, 0, none⟩, 49, [vi A, vi B1, vi C, vi D, vi Exp], 5⟩, ⟨some ⟨b1, 0, none⟩, 49, [vi y.Num.A, vi y.Num.B, vi y.Num.C, vi y.Num.D, vi y.Exp], 5⟩, ⟨some ⟨b2, 0, none⟩, 49, [vi 0, vi 0, vi 0, vi 0, vi 0], 5⟩] [] := hS14
            refine ⟨(ST.sel hS14 [2, 3] rfl rfl), ?_⟩
            refine ra_all (rs := [4]) (by kernel_rfl) rfl ?_
            refine ra_c 16 (i := 4) rfl rfl rfl (Yc_func (g := 52) (vs := [pt B 0, .agg #[vi r_1.A, vi r_1.B, vi r_1.C, vi r_1.D]]) k_call_52 rfl (mc rfl (mc rfl mn)) (c_spec_l2C_ring (Tl2C.mk bad) r_1 B _  (hS14.inn [true, false, false, false] rfl [] rfl) hc1)) ?_ ?_
            · rintro _ w_9 ⟨rfl, hd4⟩
              have hS15 := hS14.out [true, false, false, false] rfl hd4
              have hS15 : ST w0 (bl [⟨B, 59, [.bool c.bad], 1⟩]) _ [⟨some ⟨b, 0, none⟩, 49, [vi A, vi B1, vi C, vi D, vi Exp], 5⟩, ⟨some ⟨b1, 0, none⟩, 49, [vi y.Num.A, vi y.Num.B, vi y.Num.C, vi y.Num.D, vi y.Exp], 5⟩, ⟨some ⟨b2, 0, none⟩, 49, [vi 0, vi 0, vi 0, vi 0, vi 0], 5⟩, ⟨B, 59, [.bool m1.bad], 1⟩] [] := hS15
              refine ⟨(ST.sel hS15 [1, 2] rfl rfl), ?_⟩
              refine ra_q 8 20 (v := .agg #[vi r_2.A, vi r_2.B, vi r_2.C, vi r_2.D, vi (i64.wrap (Exp + 1))]) rfl rfl rfl (by kernel_rfl) (by kernel_rfl) (by kernel_rfl) (ST.sel hS15 [1, 2] rfl rfl) (fun w' hw' => (Y_buildS (zs := [vi 0, vi 0, vi 0, vi 0, vi 0]) (vs := [(0, .agg #[vi r_2.A, vi r_2.B, vi r_2.C, vi r_2.D]), (1, vi (i64.wrap (Exp + 1)))]) (cs := [vi r_2.A, vi r_2.B, vi r_2.C, vi r_2.D, vi (i64.wrap (Exp + 1))]) k_pl_49 k_zero_49 rfl (mpc rfl (mpc rfl mpn)) rfl)) ?_
              refine ra_all (rs := [9]) (by kernel_rfl) rfl ?_
              refine ra_s0 (i := 9) rfl rfl rfl (Ys_store (i := 0) (s := 5) (B := some ⟨b, 0, none⟩) (T' := 49) (v := .agg #[vi r_2.A, vi r_2.B, vi r_2.C, vi r_2.D, vi (i64.wrap (Exp + 1))]) (vs := [vi r_2.A, vi r_2.B, vi r_2.C, vi r_2.D, vi (i64.wrap (Exp + 1))]) (k := 0) (cs' := [vi r_2.A, vi r_2.B, vi r_2.C, vi r_2.D, vi (i64.wrap (Exp + 1))]) hS15 k_sz_49_5 rfl (hf.get 4 1 rfl) rfl rfl rfl rfl rfl (Nat.le_of_ble_eq_true rfl) rfl rfl) ?_ ?_
              · rintro _ w_10 ⟨rfl, hS16⟩
                have hS16 : ST w0 (bl [⟨B, 59, [.bool c.bad], 1⟩]) _ [⟨some ⟨b, 0, none⟩, 49, [vi r_2.A, vi r_2.B, vi r_2.C, vi r_2.D, vi (i64.wrap (Exp + 1))], 5⟩, ⟨some ⟨b1, 0, none⟩, 49, [vi y.Num.A, vi y.Num.B, vi y.Num.C, vi y.Num.D, vi y.Exp], 5⟩, ⟨some ⟨b2, 0, none⟩, 49, [vi 0, vi 0, vi 0, vi 0, vi 0], 5⟩, ⟨B, 59, [.bool m1.bad], 1⟩] [] := hS16
                refine ⟨(ST.sel hS16 [1, 2] rfl rfl), ?_⟩
                refine ra_done (by kernel_rfl) ?_
                exact ⟨(FF.cons (hf.get 0 0 rfl) (FF.cons (hf.get 4 1 rfl) (FF.cons (hf.get 5 2 rfl) (FF.cons (hf.get 6 3 rfl) FF.nil)))), (hS16.sel [3, 0, 1, 2] rfl rfl)⟩
              exact allR_nil
            exact allR_nil
          exact allR_nil
        exact allR_nil
      refine ra_y 18 (i := 6) (v := vi Exp) rfl rfl rfl (Y_load1 (B := some ⟨b, 0, none⟩) (i := 4) (cs := [vi A, vi B1, vi C, vi D, vi Exp]) (v := vi Exp) k_sc_3 rfl rfl (hS8.cf (i := 1) rfl) rfl) (ST.sel hS8 [2, 3] rfl rfl) ?_ ?_
      · skip
        refine ra_q 7 19 (v := vi (i64.wrap (Exp + 1))) rfl rfl rfl (by kernel_rfl) (by kernel_rfl) (by kernel_rfl) (ST.sel hS8 [2, 3] rfl rfl) (fun w' hw' => (Y_add (k := .i64) (a := Exp) (b := 1) rfl rfl rfl)) ?_
        refine ra_all (rs := [2]) (by kernel_rfl) rfl ?_
        refine ra_y 14 (i := 2) (v := .agg #[vi A, vi B1, vi C, vi D]) rfl rfl rfl (Y_loadA (B := some ⟨b, 0, none⟩) (i := 0) (cs := [vi A, vi B1, vi C, vi D, vi Exp]) (vs := [vi A, vi B1, vi C, vi D]) k_ag_47 k_sz_47_4 rfl rfl (hS8.cf (i := 1) rfl) rfl rfl) (ST.sel hS8 [2, 3] rfl rfl) ?_ ?_
        · skip
          refine ra_all (rs := [3]) (by kernel_rfl) rfl ?_
          refine ra_c 15 (i := 3) rfl rfl rfl (Yc_func (g := 53) (vs := [.agg #[vi A, vi B1, vi C, vi D]]) k_call_53 rfl (mc rfl mn) (c_spec_l1Root (TRing.mk A B1 C D) _  (hS8.inn0 [] rfl) hc)) ?_ ?_
          · rintro _ w_11 ⟨rfl, hd5⟩
            have hS17 := hS8.out00 hd5
            have hS17 : ST w0 (bl [⟨B, 59, [.bool c.bad], 1⟩]) _ [⟨B, 59, [.bool bad], 1⟩, ⟨some ⟨b, 0, none⟩, 49, [vi A, vi B1, vi C, vi D, vi Exp], 5⟩, ⟨some ⟨b1, 0, none⟩, 49, [vi y.Num.A, vi y.Num.B, vi y.Num.C, vi y.Num.D, vi y.Exp], 5⟩, ⟨some ⟨b2, 0, none⟩, 49, [vi 0, vi 0, vi 0, vi 0, vi 0], 5⟩] [] := hS17
            refine ⟨(ST.sel hS17 [2, 3] rfl rfl), ?_⟩
            refine ra_all (rs := [4]) (by kernel_rfl) rfl ?_
            refine ra_c 16 (i := 4) rfl rfl rfl (Yc_func (g := 52) (vs := [pt B 0, .agg #[vi r_1.A, vi r_1.B, vi r_1.C, vi r_1.D]]) k_call_52 rfl (mc rfl (mc rfl mn)) (c_spec_l2C_ring (Tl2C.mk bad) r_1 B _  (hS17.inn [true, false, false, false] rfl [] rfl) hc1)) ?_ ?_
            · rintro _ w_12 ⟨rfl, hd6⟩
              have hS18 := hS17.out [true, false, false, false] rfl hd6
              have hS18 : ST w0 (bl [⟨B, 59, [.bool c.bad], 1⟩]) _ [⟨some ⟨b, 0, none⟩, 49, [vi A, vi B1, vi C, vi D, vi Exp], 5⟩, ⟨some ⟨b1, 0, none⟩, 49, [vi y.Num.A, vi y.Num.B, vi y.Num.C, vi y.Num.D, vi y.Exp], 5⟩, ⟨some ⟨b2, 0, none⟩, 49, [vi 0, vi 0, vi 0, vi 0, vi 0], 5⟩, ⟨B, 59, [.bool m1.bad], 1⟩] [] := hS18
              refine ⟨(ST.sel hS18 [1, 2] rfl rfl), ?_⟩
              refine ra_q 8 20 (v := .agg #[vi r_2.A, vi r_2.B, vi r_2.C, vi r_2.D, vi (i64.wrap (Exp + 1))]) rfl rfl rfl (by kernel_rfl) (by kernel_rfl) (by kernel_rfl) (ST.sel hS18 [1, 2] rfl rfl) (fun w' hw' => (Y_buildS (zs := [vi 0, vi 0, vi 0, vi 0, vi 0]) (vs := [(0, .agg #[vi r_2.A, vi r_2.B, vi r_2.C, vi r_2.D]), (1, vi (i64.wrap (Exp + 1)))]) (cs := [vi r_2.A, vi r_2.B, vi r_2.C, vi r_2.D, vi (i64.wrap (Exp + 1))]) k_pl_49 k_zero_49 rfl (mpc rfl (mpc rfl mpn)) rfl)) ?_
              refine ra_all (rs := [9]) (by kernel_rfl) rfl ?_
              refine ra_s0 (i := 9) rfl rfl rfl (Ys_store (i := 0) (s := 5) (B := some ⟨b, 0, none⟩) (T' := 49) (v := .agg #[vi r_2.A, vi r_2.B, vi r_2.C, vi r_2.D, vi (i64.wrap (Exp + 1))]) (vs := [vi r_2.A, vi r_2.B, vi r_2.C, vi r_2.D, vi (i64.wrap (Exp + 1))]) (k := 0) (cs' := [vi r_2.A, vi r_2.B, vi r_2.C, vi r_2.D, vi (i64.wrap (Exp + 1))]) hS18 k_sz_49_5 rfl (hf.get 4 1 rfl) rfl rfl rfl rfl rfl (Nat.le_of_ble_eq_true rfl) rfl rfl) ?_ ?_
              · rintro _ w_13 ⟨rfl, hS19⟩
                have hS19 : ST w0 (bl [⟨B, 59, [.bool c.bad], 1⟩]) _ [⟨some ⟨b, 0, none⟩, 49, [vi r_2.A, vi r_2.B, vi r_2.C, vi r_2.D, vi (i64.wrap (Exp + 1))], 5⟩, ⟨some ⟨b1, 0, none⟩, 49, [vi y.Num.A, vi y.Num.B, vi y.Num.C, vi y.Num.D, vi y.Exp], 5⟩, ⟨some ⟨b2, 0, none⟩, 49, [vi 0, vi 0, vi 0, vi 0, vi 0], 5⟩, ⟨B, 59, [.bool m1.bad], 1⟩] [] := hS19
                refine ⟨(ST.sel hS19 [1, 2] rfl rfl), ?_⟩
                refine ra_done (by kernel_rfl) ?_
                exact ⟨(FF.cons (hf.get 0 0 rfl) (FF.cons (hf.get 4 1 rfl) (FF.cons (hf.get 5 2 rfl) (FF.cons (hf.get 6 3 rfl) FF.nil)))), (hS19.sel [3, 0, 1, 2] rfl rfl)⟩
              exact allR_nil
            exact allR_nil
          exact allR_nil
        exact allR_nil
      exact allR_nil
    rintro f w ⟨hf1, hS7⟩
    obtain rfl := some_inj hF2
    exact ⟨k_1, Nat.lt_succ_self _, m1.bad, r_2.A, r_2.B, r_2.C, r_2.D, (i64.wrap (Exp + 1)), (FF.cons (hf1.get 0 0 rfl) (FF.cons (hf1.get 4 1 rfl) (FF.cons (hf1.get 5 2 rfl) (FF.cons (hf1.get 6 3 rfl) FF.nil)))), (hS7.sel [0, 1, 2, 3] rfl rfl), hL1⟩
  · skip
    have hF3 := cf' hb hb1
    refine cw_exit rfl ?_
    obtain rfl := some_inj hF3
    obtain rfl := some_inj hL1
    refine cw_seq ?_
    obtain ⟨z1, hz1, hF4⟩ := bind_inv hF1
    refine cw_block ?_
    refine cw_loop (fun k f w => ∃ (bad1 : Bool) (A1 : Int) (B2 : Int) (C1 : Int) (D1 : Int) (Exp1 : Int), FF f [(0, pt B 0), (4, pt (some ⟨b, 0, none⟩) 0), (5, pt (some ⟨b1, 0, none⟩) 0), (6, pt (some ⟨b2, 0, none⟩) 0)] ∧ ST w0 (bl [⟨B, 59, [.bool c.bad], 1⟩]) w [⟨B, 59, [.bool bad1], 1⟩, ⟨some ⟨b, 0, none⟩, 49, [vi A, vi B1, vi C, vi D, vi Exp], 5⟩, ⟨some ⟨b1, 0, none⟩, 49, [vi A1, vi B2, vi C1, vi D1, vi Exp1], 5⟩, ⟨some ⟨b2, 0, none⟩, 49, [vi 0, vi 0, vi 0, vi 0, vi 0], 5⟩] [] ∧ whX (F_spec_l2C_add_l2 Exp bad A C D) k (bad1, A1, B2, C1, D1, Exp1) = some z1) fuel ⟨bad, y.Num.A, y.Num.B, y.Num.C, y.Num.D, y.Exp, (FF.cons (hf.get 0 0 rfl) (FF.cons (hf.get 4 1 rfl) (FF.cons (hf.get 5 2 rfl) (FF.cons (hf.get 6 3 rfl) FF.nil)))), (hS4.sel [0, 1, 2, 3] rfl rfl), hz1⟩ ?_
    rintro k_2 f w ⟨bad1, A1, B2, C1, D1, Exp1, hf2, hS20, hL2⟩
    obtain ⟨k_3, y2, rfl, hb2, hL3⟩ := whX_go hL2
    unfold F_spec_l2C_add_l2 at hb2
    refine cw_seq ?_
    refine cw_seq ?_
    refine cw_region ?_
    refine sq 21 rfl rfl (Y_fieldAddr (B := some ⟨b1, 0, none⟩) (i := 0) (s := 0) k_fd_49_1_4_3 k_sz_3_1 rfl (hf2.get 5 2 rfl)) ?_
    refine sq 22 rfl rfl (Y_load1 (B := some ⟨b1, 0, none⟩) (i := 4) (cs := [vi A1, vi B2, vi C1, vi D1, vi Exp1]) (v := vi Exp1) k_sc_3 rfl rfl (hS20.cf (i := 2) rfl) rfl) ?_
    refine sq 23 rfl rfl (Y_fieldAddr (B := some ⟨b, 0, none⟩) (i := 0) (s := 0) k_fd_49_1_4_3 k_sz_3_1 rfl (hf2.get 4 1 rfl)) ?_
    refine sq 24 rfl rfl (Y_load1 (B := some ⟨b, 0, none⟩) (i := 4) (cs := [vi A, vi B1, vi C, vi D, vi Exp]) (v := vi Exp) k_sc_3 rfl rfl (hS20.cf (i := 1) rfl) rfl) ?_
    refine sq 25 rfl rfl (Y_lt (k := .i64) (a := Exp1) (b := Exp) rfl rfl rfl) ?_
    refine rw_nil ?_
    refine cw_cond (b := (decide (Exp1 < Exp))) rfl (fun hb3 => ?_) (fun hb3 => ?_)
    · skip
      have hF5 := ct hb2 hb3
      refine cw_skip ?_
      refine cw_block ?_
      obtain ⟨r_3, hc2, hF5⟩ := bind_inv hF5
      obtain ⟨⟨r_4, m2⟩, hc3, hF5⟩ := bind_inv hF5
      refine cw_mid (fun f w => FF f [(0, pt B 0), (4, pt (some ⟨b, 0, none⟩) 0), (5, pt (some ⟨b1, 0, none⟩) 0), (6, pt (some ⟨b2, 0, none⟩) 0)] ∧ ST w0 (bl [⟨B, 59, [.bool c.bad], 1⟩]) w [⟨B, 59, [.bool m2.bad], 1⟩, ⟨some ⟨b, 0, none⟩, 49, [vi A, vi B1, vi C, vi D, vi Exp], 5⟩, ⟨some ⟨b1, 0, none⟩, 49, [vi r_4.A, vi r_4.B, vi r_4.C, vi r_4.D, vi (i64.wrap (Exp1 + 1))], 5⟩, ⟨some ⟨b2, 0, none⟩, 49, [vi 0, vi 0, vi 0, vi 0, vi 0], 5⟩] []) ?_ ?_
      · skip
        refine ra_start (ST.sel hS20 [1, 3] rfl rfl).fn (by kernel_rfl) ?_
        have hS24 := hS20.drew
        refine ra_q 0 26 (v := pt B 0) rfl rfl rfl (by kernel_rfl) (by kernel_rfl) (by kernel_rfl) (ST.sel hS24 [1, 3] rfl rfl) (fun w' hw' => (Y_move (v := pt B 0) rfl (hf2.get 0 0 rfl))) ?_
        refine ra_q 1 27 (v := pt (some ⟨b1, 0, none⟩) 0) rfl rfl rfl (by kernel_rfl) (by kernel_rfl) (by kernel_rfl) (ST.sel hS24 [1, 3] rfl rfl) (fun w' hw' => (Y_fieldAddr (B := some ⟨b1, 0, none⟩) (i := 0) (s := 3) k_fd_49_0_0_47 k_sz_47_4 rfl (hf2.get 5 2 rfl))) ?_
        refine ra_q 5 31 (v := pt (some ⟨b1, 0, none⟩) 4) rfl rfl rfl (by kernel_rfl) (by kernel_rfl) (by kernel_rfl) (ST.sel hS24 [1, 3] rfl rfl) (fun w' hw' => (Y_fieldAddr (B := some ⟨b1, 0, none⟩) (i := 0) (s := 0) k_fd_49_1_4_3 k_sz_3_1 rfl (hf2.get 5 2 rfl))) ?_
        refine ra_all (rs := [2, 6]) (by kernel_rfl) rfl ?_
        refine ra_y 28 (i := 2) (v := .agg #[vi A1, vi B2, vi C1, vi D1]) rfl rfl rfl (Y_loadA (B := some ⟨b1, 0, none⟩) (i := 0) (cs := [vi A1, vi B2, vi C1, vi D1, vi Exp1]) (vs := [vi A1, vi B2, vi C1, vi D1]) k_ag_47 k_sz_47_4 rfl rfl (hS24.cf (i := 2) rfl) rfl rfl) (ST.sel hS24 [1, 3] rfl rfl) ?_ ?_
        · skip
          refine ra_all (rs := [3, 6]) (by kernel_rfl) rfl ?_
          refine ra_c 29 (i := 3) rfl rfl rfl (Yc_func (g := 53) (vs := [.agg #[vi A1, vi B2, vi C1, vi D1]]) k_call_53 rfl (mc rfl mn) (c_spec_l1Root (TRing.mk A1 B2 C1 D1) _  (hS24.inn0 [] rfl) hc2)) ?_ ?_
          · rintro _ w_14 ⟨rfl, hd7⟩
            have hS25 := hS24.out00 hd7
            have hS25 : ST w0 (bl [⟨B, 59, [.bool c.bad], 1⟩]) _ [⟨B, 59, [.bool bad1], 1⟩, ⟨some ⟨b, 0, none⟩, 49, [vi A, vi B1, vi C, vi D, vi Exp], 5⟩, ⟨some ⟨b1, 0, none⟩, 49, [vi A1, vi B2, vi C1, vi D1, vi Exp1], 5⟩, ⟨some ⟨b2, 0, none⟩, 49, [vi 0, vi 0, vi 0, vi 0, vi 0], 5⟩] [] := hS25
            refine ⟨(ST.sel hS25 [1, 3] rfl rfl), ?_⟩
            refine ra_all (rs := [4, 6]) (by kernel_rfl) rfl ?_
            refine ra_c 30 (i := 4) rfl rfl rfl (Yc_func (g := 52) (vs := [pt B 0, .agg #[vi r_3.A, vi r_3.B, vi r_3.C, vi r_3.D]]) k_call_52 rfl (mc rfl (mc rfl mn)) (c_spec_l2C_ring (Tl2C.mk bad1) r_3 B _  (hS25.inn [true, false, false, false] rfl [] rfl) hc3)) ?_ ?_
            · rintro _ w_15 ⟨rfl, hd8⟩
              have hS26 := hS25.out [true, false, false, false] rfl hd8
              have hS26 : ST w0 (bl [⟨B, 59, [.bool c.bad], 1⟩]) _ [⟨some ⟨b, 0, none⟩, 49, [vi A, vi B1, vi C, vi D, vi Exp], 5⟩, ⟨some ⟨b1, 0, none⟩, 49, [vi A1, vi B2, vi C1, vi D1, vi Exp1], 5⟩, ⟨some ⟨b2, 0, none⟩, 49, [vi 0, vi 0, vi 0, vi 0, vi 0], 5⟩, ⟨B, 59, [.bool m2.bad], 1⟩] [] := hS26
              refine ⟨(ST.sel hS26 [0, 2] rfl rfl), ?_⟩
              refine ra_all (rs := [6]) (by kernel_rfl) rfl ?_
              refine ra_y 32 (i := 6) (v := vi Exp1) rfl rfl rfl (Y_load1 (B := some ⟨b1, 0, none⟩) (i := 4) (cs := [vi A1, vi B2, vi C1, vi D1, vi Exp1]) (v := vi Exp1) k_sc_3 rfl rfl (hS26.cf (i := 1) rfl) rfl) (ST.sel hS26 [0, 2] rfl rfl) ?_ ?_
              · skip
                refine ra_q 7 33 (v := vi (i64.wrap (Exp1 + 1))) rfl rfl rfl (by kernel_rfl) (by kernel_rfl) (by kernel_rfl) (ST.sel hS26 [0, 2] rfl rfl) (fun w' hw' => (Y_add (k := .i64) (a := Exp1) (b := 1) rfl rfl rfl)) ?_
                refine ra_q 8 34 (v := .agg #[vi r_4.A, vi r_4.B, vi r_4.C, vi r_4.D, vi (i64.wrap (Exp1 + 1))]) rfl rfl rfl (by kernel_rfl) (by kernel_rfl) (by kernel_rfl) (ST.sel hS26 [0, 2] rfl rfl) (fun w' hw' => (Y_buildS (zs := [vi 0, vi 0, vi 0, vi 0, vi 0]) (vs := [(0, .agg #[vi r_4.A, vi r_4.B, vi r_4.C, vi r_4.D]), (1, vi (i64.wrap (Exp1 + 1)))]) (cs := [vi r_4.A, vi r_4.B, vi r_4.C, vi r_4.D, vi (i64.wrap (Exp1 + 1))]) k_pl_49 k_zero_49 rfl (mpc rfl (mpc rfl mpn)) rfl)) ?_
                refine ra_all (rs := [9]) (by kernel_rfl) rfl ?_
                refine ra_s0 (i := 9) rfl rfl rfl (Ys_store (i := 1) (s := 5) (B := some ⟨b1, 0, none⟩) (T' := 49) (v := .agg #[vi r_4.A, vi r_4.B, vi r_4.C, vi r_4.D, vi (i64.wrap (Exp1 + 1))]) (vs := [vi r_4.A, vi r_4.B, vi r_4.C, vi r_4.D, vi (i64.wrap (Exp1 + 1))]) (k := 0) (cs' := [vi r_4.A, vi r_4.B, vi r_4.C, vi r_4.D, vi (i64.wrap (Exp1 + 1))]) hS26 k_sz_49_5 rfl (hf2.get 5 2 rfl) rfl rfl rfl rfl rfl (Nat.le_of_ble_eq_true rfl) rfl rfl) ?_ ?_
                · rintro _ w_16 ⟨rfl, hS27⟩
                  have hS27 : ST w0 (bl [⟨B, 59, [.bool c.bad], 1⟩]) _ [⟨some ⟨b, 0, none⟩, 49, [vi A, vi B1, vi C, vi D, vi Exp], 5⟩, ⟨some ⟨b1, 0, none⟩, 49, [vi r_4.A, vi r_4.B, vi r_4.C, vi r_4.D, vi (i64.wrap (Exp1 + 1))], 5⟩, ⟨some ⟨b2, 0, none⟩, 49, [vi 0, vi 0, vi 0, vi 0, vi 0], 5⟩, ⟨B, 59, [.bool m2.bad], 1⟩] [] := hS27
                  refine ⟨(ST.sel hS27 [0, 2] rfl rfl), ?_⟩
                  refine ra_done (by kernel_rfl) ?_
                  exact ⟨(FF.cons (hf2.get 0 0 rfl) (FF.cons (hf2.get 4 1 rfl) (FF.cons (hf2.get 5 2 rfl) (FF.cons (hf2.get 6 3 rfl) FF.nil)))), (hS27.sel [3, 0, 1, 2] rfl rfl)⟩
                exact allR_nil
              exact allR_nil
            refine ra_y 32 (i := 6) (v := vi Exp1) rfl rfl rfl (Y_load1 (B := some ⟨b1, 0, none⟩) (i := 4) (cs := [vi A1, vi B2, vi C1, vi D1, vi Exp1]) (v := vi Exp1) k_sc_3 rfl rfl (hS25.cf (i := 2) rfl) rfl) (ST.sel hS25 [1, 3] rfl rfl) ?_ ?_
            · skip
              refine ra_q 7 33 (v := vi (i64.wrap (Exp1 + 1))) rfl rfl rfl (by kernel_rfl) (by kernel_rfl) (by kernel_rfl) (ST.sel hS25 [1, 3] rfl rfl) (fun w' hw' => (Y_add (k := .i64) (a := Exp1) (b := 1) rfl rfl rfl)) ?_
              refine ra_all (rs := [4]) (by kernel_rfl) rfl ?_
              refine ra_c 30 (i := 4) rfl rfl rfl (Yc_func (g := 52) (vs := [pt B 0, .agg #[vi r_3.A, vi r_3.B, vi r_3.C, vi r_3.D]]) k_call_52 rfl (mc rfl (mc rfl mn)) (c_spec_l2C_ring (Tl2C.mk bad1) r_3 B _  (hS25.inn [true, false, false, false] rfl [] rfl) hc3)) ?_ ?_
              · rintro _ w_17 ⟨rfl, hd9⟩
                have hS28 := hS25.out [true, false, false, false] rfl hd9
                have hS28 : ST w0 (bl [⟨B, 59, [.bool c.bad], 1⟩]) _ [⟨some ⟨b, 0, none⟩, 49, [vi A, vi B1, vi C, vi D, vi Exp], 5⟩, ⟨some ⟨b1, 0, none⟩, 49, [vi A1, vi B2, vi C1, vi D1, vi Exp1], 5⟩, ⟨some ⟨b2, 0, none⟩, 49, [vi 0, vi 0, vi 0, vi 0, vi 0], 5⟩, ⟨B, 59, [.bool m2.bad], 1⟩] [] := hS28
                refine ⟨(ST.sel hS28 [0, 2] rfl rfl), ?_⟩
                refine ra_q 8 34 (v := .agg #[vi r_4.A, vi r_4.B, vi r_4.C, vi r_4.D, vi (i64.wrap (Exp1 + 1))]) rfl rfl rfl (by kernel_rfl) (by kernel_rfl) (by kernel_rfl) (ST.sel hS28 [0, 2] rfl rfl) (fun w' hw' => (Y_buildS (zs := [vi 0, vi 0, vi 0, vi 0, vi 0]) (vs := [(0, .agg #[vi r_4.A, vi r_4.B, vi r_4.C, vi r_4.D]), (1, vi (i64.wrap (Exp1 + 1)))]) (cs := [vi r_4.A, vi r_4.B, vi r_4.C, vi r_4.D, vi (i64.wrap (Exp1 + 1))]) k_pl_49 k_zero_49 rfl (mpc rfl (mpc rfl mpn)) rfl)) ?_
                refine ra_all (rs := [9]) (by kernel_rfl) rfl ?_
                refine ra_s0 (i := 9) rfl rfl rfl (Ys_store (i := 1) (s := 5) (B := some ⟨b1, 0, none⟩) (T' := 49) (v := .agg #[vi r_4.A, vi r_4.B, vi r_4.C, vi r_4.D, vi (i64.wrap (Exp1 + 1))]) (vs := [vi r_4.A, vi r_4.B, vi r_4.C, vi r_4.D, vi (i64.wrap (Exp1 + 1))]) (k := 0) (cs' := [vi r_4.A, vi r_4.B, vi r_4.C, vi r_4.D, vi (i64.wrap (Exp1 + 1))]) hS28 k_sz_49_5 rfl (hf2.get 5 2 rfl) rfl rfl rfl rfl rfl (Nat.le_of_ble_eq_true rfl) rfl rfl) ?_ ?_
                · rintro _ w_18 ⟨rfl, hS29⟩
                  have hS29 : ST w0 (bl [⟨B, 59, [.bool c.bad], 1⟩]) _ [⟨some ⟨b, 0, none⟩, 49, [vi A, vi B1, vi C, vi D, vi Exp], 5⟩, ⟨some ⟨b1, 0, none⟩, 49, [vi r_4.A, vi r_4.B, vi r_4.C, vi r_4.D, vi (i64.wrap (Exp1 + 1))], 5⟩, ⟨some ⟨b2, 0, none⟩, 49, [vi 0, vi 0, vi 0, vi 0, vi 0], 5⟩, ⟨B, 59, [.bool m2.bad], 1⟩] [] := hS29
                  refine ⟨(ST.sel hS29 [0, 2] rfl rfl), ?_⟩
                  refine ra_done (by kernel_rfl) ?_
                  exact ⟨(FF.cons (hf2.get 0 0 rfl) (FF.cons (hf2.get 4 1 rfl) (FF.cons (hf2.get 5 2 rfl) (FF.cons (hf2.get 6 3 rfl) FF.nil)))), (hS29.sel [3, 0, 1, 2] rfl rfl)⟩
                exact allR_nil
              exact allR_nil
            exact allR_nil
          refine ra_y 32 (i := 6) (v := vi Exp1) rfl rfl rfl (Y_load1 (B := some ⟨b1, 0, none⟩) (i := 4) (cs := [vi A1, vi B2, vi C1, vi D1, vi Exp1]) (v := vi Exp1) k_sc_3 rfl rfl (hS24.cf (i := 2) rfl) rfl) (ST.sel hS24 [1, 3] rfl rfl) ?_ ?_
          · skip
            refine ra_q 7 33 (v := vi (i64.wrap (Exp1 + 1))) rfl rfl rfl (by kernel_rfl) (by kernel_rfl) (by kernel_rfl) (ST.sel hS24 [1, 3] rfl rfl) (fun w' hw' => (Y_add (k := .i64) (a := Exp1) (b := 1) rfl rfl rfl)) ?_
            refine ra_all (rs := [3]) (by kernel_rfl) rfl ?_
            refine ra_c 29 (i := 3) rfl rfl rfl (Yc_func (g := 53) (vs := [.agg #[vi A1, vi B2, vi C1, vi D1]]) k_call_53 rfl (mc rfl mn) (c_spec_l1Root (TRing.mk A1 B2 C1 D1) _  (hS24.inn0 [] rfl) hc2)) ?_ ?_
            · rintro _ w_19 ⟨rfl, hd10⟩
              have hS30 := hS24.out00 hd10
              have hS30 : ST w0 (bl [⟨B, 59, [.bool c.bad], 1⟩]) _ [⟨B, 59, [.bool bad1], 1⟩, ⟨some ⟨b, 0, none⟩, 49, [vi A, vi B1, vi C, vi D, vi Exp], 5⟩, ⟨some ⟨b1, 0, none⟩, 49, [vi A1, vi B2, vi C1, vi D1, vi Exp1], 5⟩, ⟨some ⟨b2, 0, none⟩, 49, [vi 0, vi 0, vi 0, vi 0, vi 0], 5⟩] [] := hS30
              refine ⟨(ST.sel hS30 [1, 3] rfl rfl), ?_⟩
              refine ra_all (rs := [4]) (by kernel_rfl) rfl ?_
              refine ra_c 30 (i := 4) rfl rfl rfl (Yc_func (g := 52) (vs := [pt B 0, .agg #[vi r_3.A, vi r_3.B, vi r_3.C, vi r_3.D]]) k_call_52 rfl (mc rfl (mc rfl mn)) (c_spec_l2C_ring (Tl2C.mk bad1) r_3 B _  (hS30.inn [true, false, false, false] rfl [] rfl) hc3)) ?_ ?_
              · rintro _ w_20 ⟨rfl, hd11⟩
                have hS31 := hS30.out [true, false, false, false] rfl hd11
                have hS31 : ST w0 (bl [⟨B, 59, [.bool c.bad], 1⟩]) _ [⟨some ⟨b, 0, none⟩, 49, [vi A, vi B1, vi C, vi D, vi Exp], 5⟩, ⟨some ⟨b1, 0, none⟩, 49, [vi A1, vi B2, vi C1, vi D1, vi Exp1], 5⟩, ⟨some ⟨b2, 0, none⟩, 49, [vi 0, vi 0, vi 0, vi 0, vi 0], 5⟩, ⟨B, 59, [.bool m2.bad], 1⟩] [] := hS31
                refine ⟨(ST.sel hS31 [0, 2] rfl rfl), ?_⟩
                refine ra_q 8 34 (v := .agg #[vi r_4.A, vi r_4.B, vi r_4.C, vi r_4.D, vi (i64.wrap (Exp1 + 1))]) rfl rfl rfl (by kernel_rfl) (by kernel_rfl) (by kernel_rfl) (ST.sel hS31 [0, 2] rfl rfl) (fun w' hw' => (Y_buildS (zs := [vi 0, vi 0, vi 0, vi 0, vi 0]) (vs := [(0, .agg #[vi r_4.A, vi r_4.B, vi r_4.C, vi r_4.D]), (1, vi (i64.wrap (Exp1 + 1)))]) (cs := [vi r_4.A, vi r_4.B, vi r_4.C, vi r_4.D, vi (i64.wrap (Exp1 + 1))]) k_pl_49 k_zero_49 rfl (mpc rfl (mpc rfl mpn)) rfl)) ?_
                refine ra_all (rs := [9]) (by kernel_rfl) rfl ?_
                refine ra_s0 (i := 9) rfl rfl rfl (Ys_store (i := 1) (s := 5) (B := some ⟨b1, 0, none⟩) (T' := 49) (v := .agg #[vi r_4.A, vi r_4.B, vi r_4.C, vi r_4.D, vi (i64.wrap (Exp1 + 1))]) (vs := [vi r_4.A, vi r_4.B, vi r_4.C, vi r_4.D, vi (i64.wrap (Exp1 + 1))]) (k := 0) (cs' := [vi r_4.A, vi r_4.B, vi r_4.C, vi r_4.D, vi (i64.wrap (Exp1 + 1))]) hS31 k_sz_49_5 rfl (hf2.get 5 2 rfl) rfl rfl rfl rfl rfl (Nat.le_of_ble_eq_true rfl) rfl rfl) ?_ ?_
                · rintro _ w_21 ⟨rfl, hS32⟩
                  have hS32 : ST w0 (bl [⟨B, 59, [.bool c.bad], 1⟩]) _ [⟨some ⟨b, 0, none⟩, 49, [vi A, vi B1, vi C, vi D, vi Exp], 5⟩, ⟨some ⟨b1, 0, none⟩, 49, [vi r_4.A, vi r_4.B, vi r_4.C, vi r_4.D, vi (i64.wrap (Exp1 + 1))], 5⟩, ⟨some ⟨b2, 0, none⟩, 49, [vi 0, vi 0, vi 0, vi 0, vi 0], 5⟩, ⟨B, 59, [.bool m2.bad], 1⟩] [] := hS32
                  refine ⟨(ST.sel hS32 [0, 2] rfl rfl), ?_⟩
                  refine ra_done (by kernel_rfl) ?_
                  exact ⟨(FF.cons (hf2.get 0 0 rfl) (FF.cons (hf2.get 4 1 rfl) (FF.cons (hf2.get 5 2 rfl) (FF.cons (hf2.get 6 3 rfl) FF.nil)))), (hS32.sel [3, 0, 1, 2] rfl rfl)⟩
                exact allR_nil
              exact allR_nil
            exact allR_nil
          exact allR_nil
        refine ra_y 32 (i := 6) (v := vi Exp1) rfl rfl rfl (Y_load1 (B := some ⟨b1, 0, none⟩) (i := 4) (cs := [vi A1, vi B2, vi C1, vi D1, vi Exp1]) (v := vi Exp1) k_sc_3 rfl rfl (hS24.cf (i := 2) rfl) rfl) (ST.sel hS24 [1, 3] rfl rfl) ?_ ?_
        · skip
          refine ra_q 7 33 (v := vi (i64.wrap (Exp1 + 1))) rfl rfl rfl (by kernel_rfl) (by kernel_rfl) (by kernel_rfl) (ST.sel hS24 [1, 3] rfl rfl) (fun w' hw' => (Y_add (k := .i64) (a := Exp1) (b := 1) rfl rfl rfl)) ?_
          refine ra_all (rs := [2]) (by kernel_rfl) rfl ?_
          refine ra_y 28 (i := 2) (v := .agg #[vi A1, vi B2, vi C1, vi D1]) rfl rfl rfl (Y_loadA (B := some ⟨b1, 0, none⟩) (i := 0) (cs := [vi A1, vi B2, vi C1, vi D1, vi Exp1]) (vs := [vi A1, vi B2, vi C1, vi D1]) k_ag_47 k_sz_47_4 rfl rfl (hS24.cf (i := 2) rfl) rfl rfl) (ST.sel hS24 [1, 3] rfl rfl) ?_ ?_
          · skip
            refine ra_all (rs := [3]) (by kernel_rfl) rfl ?_
            refine ra_c 29 (i := 3) rfl rfl rfl (Yc_func (g := 53) (vs := [.agg #[vi A1, vi B2, vi C1, vi D1]]) k_call_53 rfl (mc rfl mn) (c_spec_l1Root (TRing.mk A1 B2 C1 D1) _  (hS24.inn0 [] rfl) hc2)) ?_ ?_
            · rintro _ w_22 ⟨rfl, hd12⟩
              have hS33 := hS24.out00 hd12
              have hS33 : ST w0 (bl [⟨B, 59, [.bool c.bad], 1⟩]) _ [⟨B, 59, [.bool bad1], 1⟩, ⟨some ⟨b, 0, none⟩, 49, [vi A, vi B1, vi C, vi D, vi Exp], 5⟩, ⟨some ⟨b1, 0, none⟩, 49, [vi A1, vi B2, vi C1, vi D1, vi Exp1], 5⟩, ⟨some ⟨b2, 0, none⟩, 49, [vi 0, vi 0, vi 0, vi 0, vi 0], 5⟩] [] := hS33
              refine ⟨(ST.sel hS33 [1, 3] rfl rfl), ?_⟩
              refine ra_all (rs := [4]) (by kernel_rfl) rfl ?_
              refine ra_c 30 (i := 4) rfl rfl rfl (Yc_func (g := 52) (vs := [pt B 0, .agg #[vi r_3.A, vi r_3.B, vi r_3.C, vi r_3.D]]) k_call_52 rfl (mc rfl (mc rfl mn)) (c_spec_l2C_ring (Tl2C.mk bad1) r_3 B _  (hS33.inn [true, false, false, false] rfl [] rfl) hc3)) ?_ ?_
              · rintro _ w_23 ⟨rfl, hd13⟩
                have hS34 := hS33.out [true, false, false, false] rfl hd13
                have hS34 : ST w0 (bl [⟨B, 59, [.bool c.bad], 1⟩]) _ [⟨some ⟨b, 0, none⟩, 49, [vi A, vi B1, vi C, vi D, vi Exp], 5⟩, ⟨some ⟨b1, 0, none⟩, 49, [vi A1, vi B2, vi C1, vi D1, vi Exp1], 5⟩, ⟨some ⟨b2, 0, none⟩, 49, [vi 0, vi 0, vi 0, vi 0, vi 0], 5⟩, ⟨B, 59, [.bool m2.bad], 1⟩] [] := hS34
                refine ⟨(ST.sel hS34 [0, 2] rfl rfl), ?_⟩
                refine ra_q 8 34 (v := .agg #[vi r_4.A, vi r_4.B, vi r_4.C, vi r_4.D, vi (i64.wrap (Exp1 + 1))]) rfl rfl rfl (by kernel_rfl) (by kernel_rfl) (by kernel_rfl) (ST.sel hS34 [0, 2] rfl rfl) (fun w' hw' => (Y_buildS (zs := [vi 0, vi 0, vi 0, vi 0, vi 0]) (vs := [(0, .agg #[vi r_4.A, vi r_4.B, vi r_4.C, vi r_4.D]), (1, vi (i64.wrap (Exp1 + 1)))]) (cs := [vi r_4.A, vi r_4.B, vi r_4.C, vi r_4.D, vi (i64.wrap (Exp1 + 1))]) k_pl_49 k_zero_49 rfl (mpc rfl (mpc rfl mpn)) rfl)) ?_
                refine ra_all (rs := [9]) (by kernel_rfl) rfl ?_
                refine ra_s0 (i := 9) rfl rfl rfl (Ys_store (i := 1) (s := 5) (B := some ⟨b1, 0, none⟩) (T' := 49) (v := .agg #[vi r_4.A, vi r_4.B, vi r_4.C, vi r_4.D, vi (i64.wrap (Exp1 + 1))]) (vs := [vi r_4.A, vi r_4.B, vi r_4.C, vi r_4.D, vi (i64.wrap (Exp1 + 1))]) (k := 0) (cs' := [vi r_4.A, vi r_4.B, vi r_4.C, vi r_4.D, vi (i64.wrap (Exp1 + 1))]) hS34 k_sz_49_5 rfl (hf2.get 5 2 rfl) rfl rfl rfl rfl rfl (Nat.le_of_ble_eq_true rfl) rfl rfl) ?_ ?_
                · rintro _ w_24 ⟨rfl, hS35⟩
                  have hS35 : ST w0 (bl [⟨B, 59, [.bool c.bad], 1⟩]) _ [⟨some ⟨b, 0, none⟩, 49, [vi A, vi B1, vi C, vi D, vi Exp], 5⟩, ⟨some ⟨b1, 0, none⟩, 49, [vi r_4.A, vi r_4.B, vi r_4.C, vi r_4.D, vi (i64.wrap (Exp1 + 1))], 5⟩, ⟨some ⟨b2, 0, none⟩, 49, [vi 0, vi 0, vi 0, vi 0, vi 0], 5⟩, ⟨B, 59, [.bool m2.bad], 1⟩] [] := hS35
                  refine ⟨(ST.sel hS35 [0, 2] rfl rfl), ?_⟩
                  refine ra_done (by kernel_rfl) ?_
                  exact ⟨(FF.cons (hf2.get 0 0 rfl) (FF.cons (hf2.get 4 1 rfl) (FF.cons (hf2.get 5 2 rfl) (FF.cons (hf2.get 6 3 rfl) FF.nil)))), (hS35.sel [3, 0, 1, 2] rfl rfl)⟩
                exact allR_nil
              exact allR_nil
            exact allR_nil
          exact allR_nil
        exact allR_nil
      rintro f w ⟨hf3, hS23⟩
      obtain rfl := some_inj hF5
      exact ⟨k_3, Nat.lt_succ_self _, m2.bad, r_4.A, r_4.B, r_4.C, r_4.D, (i64.wrap (Exp1 + 1)), (FF.cons (hf3.get 0 0 rfl) (FF.cons (hf3.get 4 1 rfl) (FF.cons (hf3.get 5 2 rfl) (FF.cons (hf3.get 6 3 rfl) FF.nil)))), (hS23.sel [0, 1, 2, 3] rfl rfl), hL3⟩
    · skip
      have hF6 := cf' hb2 hb3
      refine cw_exit rfl ?_
      obtain rfl := some_inj hF6
      obtain rfl := some_inj hL3
      refine cw_seq ?_
      obtain ⟨r_5, hc4, hF4⟩ := bind_inv hF4
      obtain ⟨⟨r_6, m3⟩, hc5, hF4⟩ := bind_inv hF4
      obtain ⟨r_7, hc6, hF4⟩ := bind_inv hF4
      refine ra_start (ST.sel hS20 [1, 2] rfl rfl).fn (by kernel_rfl) ?_
      have hS39 := hS20.drew
      refine ra_q 0 35 (v := pt B 0) rfl rfl rfl (by kernel_rfl) (by kernel_rfl) (by kernel_rfl) (ST.sel hS39 [1, 2] rfl rfl) (fun w' hw' => (Y_move (v := pt B 0) rfl (hf2.get 0 0 rfl))) ?_
      refine ra_q 1 36 (v := pt (some ⟨b, 0, none⟩) 0) rfl rfl rfl (by kernel_rfl) (by kernel_rfl) (by kernel_rfl) (ST.sel hS39 [1, 2] rfl rfl) (fun w' hw' => (Y_fieldAddr (B := some ⟨b, 0, none⟩) (i := 0) (s := 3) k_fd_49_0_0_47 k_sz_47_4 rfl (hf2.get 4 1 rfl))) ?_
      refine ra_q 2 37 (v := .agg #[vi A, vi B1, vi C, vi D]) rfl rfl rfl (by kernel_rfl) (by kernel_rfl) (by kernel_rfl) (ST.sel hS39 [1, 2] rfl rfl) (fun w' hw' => (Y_loadA (B := some ⟨b, 0, none⟩) (i := 0) (cs := [vi A, vi B1, vi C, vi D, vi Exp]) (vs := [vi A, vi B1, vi C, vi D]) k_ag_47 k_sz_47_4 rfl rfl (ST.cf hw' (i := 0) rfl) rfl rfl)) ?_
      refine ra_q 3 38 (v := pt (some ⟨b1, 0, none⟩) 0) rfl rfl rfl (by kernel_rfl) (by kernel_rfl) (by kernel_rfl) (ST.sel hS39 [1, 2] rfl rfl) (fun w' hw' => (Y_fieldAddr (B := some ⟨b1, 0, none⟩) (i := 0) (s := 3) k_fd_49_0_0_47 k_sz_47_4 rfl (hf2.get 5 2 rfl))) ?_
      refine ra_q 4 39 (v := .agg #[vi A1, vi B2, vi C1, vi D1]) rfl rfl rfl (by kernel_rfl) (by kernel_rfl) (by kernel_rfl) (ST.sel hS39 [1, 2] rfl rfl) (fun w' hw' => (Y_loadA (B := some ⟨b1, 0, none⟩) (i := 0) (cs := [vi A1, vi B2, vi C1, vi D1, vi Exp1]) (vs := [vi A1, vi B2, vi C1, vi D1]) k_ag_47 k_sz_47_4 rfl rfl (ST.cf hw' (i := 1) rfl) rfl rfl)) ?_
      refine ra_q 7 42 (v := pt (some ⟨b, 0, none⟩) 4) rfl rfl rfl (by kernel_rfl) (by kernel_rfl) (by kernel_rfl) (ST.sel hS39 [1, 2] rfl rfl) (fun w' hw' => (Y_fieldAddr (B := some ⟨b, 0, none⟩) (i := 0) (s := 0) k_fd_49_1_4_3 k_sz_3_1 rfl (hf2.get 4 1 rfl))) ?_
      refine ra_q 8 43 (v := vi Exp) rfl rfl rfl (by kernel_rfl) (by kernel_rfl) (by kernel_rfl) (ST.sel hS39 [1, 2] rfl rfl) (fun w' hw' => (Y_load1 (B := some ⟨b, 0, none⟩) (i := 4) (cs := [vi A, vi B1, vi C, vi D, vi Exp]) (v := vi Exp) k_sc_3 rfl rfl (ST.cf hw' (i := 0) rfl) rfl)) ?_
      refine ra_all (rs := [5]) (by kernel_rfl) rfl ?_
      refine ra_c 40 (i := 5) rfl rfl rfl (Yc_func (g := 55) (vs := [.agg #[vi A, vi B1, vi C, vi D], .agg #[vi A1, vi B2, vi C1, vi D1]]) k_call_55 rfl (mc rfl (mc rfl mn)) (c_spec_l1Add (TRing.mk A B1 C D) (TRing.mk A1 B2 C1 D1) _  (hS39.inn0 [] rfl) hc4)) ?_ ?_
      · rintro _ w_25 ⟨rfl, hd14⟩
        have hS40 := hS39.out00 hd14
        have hS40 : ST w0 (bl [⟨B, 59, [.bool c.bad], 1⟩]) _ [⟨B, 59, [.bool bad1], 1⟩, ⟨some ⟨b, 0, none⟩, 49, [vi A, vi B1, vi C, vi D, vi Exp], 5⟩, ⟨some ⟨b1, 0, none⟩, 49, [vi A1, vi B2, vi C1, vi D1, vi Exp1], 5⟩, ⟨some ⟨b2, 0, none⟩, 49, [vi 0, vi 0, vi 0, vi 0, vi 0], 5⟩] [] := hS40
        refine ⟨(ST.sel hS40 [1, 2] rfl rfl), ?_⟩
        refine ra_all (rs := [6]) (by kernel_rfl) rfl ?_
        refine ra_c 41 (i := 6) rfl rfl rfl (Yc_func (g := 52) (vs := [pt B 0, .agg #[vi r_5.A, vi r_5.B, vi r_5.C, vi r_5.D]]) k_call_52 rfl (mc rfl (mc rfl mn)) (c_spec_l2C_ring (Tl2C.mk bad1) r_5 B _  (hS40.inn [true, false, false, false] rfl [] rfl) hc5)) ?_ ?_
        · rintro _ w_26 ⟨rfl, hd15⟩
          have hS41 := hS40.out [true, false, false, false] rfl hd15
          have hS41 : ST w0 (bl [⟨B, 59, [.bool c.bad], 1⟩]) _ [⟨some ⟨b, 0, none⟩, 49, [vi A, vi B1, vi C, vi D, vi Exp], 5⟩, ⟨some ⟨b1, 0, none⟩, 49, [vi A1, vi B2, vi C1, vi D1, vi Exp1], 5⟩, ⟨some ⟨b2, 0, none⟩, 49, [vi 0, vi 0, vi 0, vi 0, vi 0], 5⟩, ⟨B, 59, [.bool m3.bad], 1⟩] [] := hS41
          refine ⟨(ST.sel hS41 [0, 1] rfl rfl), ?_⟩
          refine ra_all (rs := [9]) (by kernel_rfl) rfl ?_
          refine ra_c 44 (i := 9) rfl rfl rfl (Yc_func (g := 54) (vs := [.agg #[vi r_6.A, vi r_6.B, vi r_6.C, vi r_6.D], vi Exp]) k_call_54 rfl (mc rfl (mc rfl mn)) (c_spec_l2Low r_6 Exp _  (hS41.inn0 [] rfl) hc6)) ?_ ?_
          · rintro _ w_27 ⟨rfl, hd16⟩
            have hS42 := hS41.out00 hd16
            have hS42 : ST w0 (bl [⟨B, 59, [.bool c.bad], 1⟩]) _ [⟨some ⟨b, 0, none⟩, 49, [vi A, vi B1, vi C, vi D, vi Exp], 5⟩, ⟨some ⟨b1, 0, none⟩, 49, [vi A1, vi B2, vi C1, vi D1, vi Exp1], 5⟩, ⟨some ⟨b2, 0, none⟩, 49, [vi 0, vi 0, vi 0, vi 0, vi 0], 5⟩, ⟨B, 59, [.bool m3.bad], 1⟩] [] := hS42
            refine ⟨(ST.sel hS42 [0, 1] rfl rfl), ?_⟩
            refine ra_all (rs := [10]) (by kernel_rfl) rfl ?_
            refine ra_s0 (i := 10) rfl rfl rfl (Ys_store (i := 2) (s := 5) (B := some ⟨b2, 0, none⟩) (T' := 49) (v := .agg #[vi r_7.Num.A, vi r_7.Num.B, vi r_7.Num.C, vi r_7.Num.D, vi r_7.Exp]) (vs := [vi r_7.Num.A, vi r_7.Num.B, vi r_7.Num.C, vi r_7.Num.D, vi r_7.Exp]) (k := 0) (cs' := [vi r_7.Num.A, vi r_7.Num.B, vi r_7.Num.C, vi r_7.Num.D, vi r_7.Exp]) hS42 k_sz_49_5 rfl (hf2.get 6 3 rfl) rfl rfl rfl rfl rfl (Nat.le_of_ble_eq_true rfl) rfl rfl) ?_ ?_
            · rintro _ w_28 ⟨rfl, hS43⟩
              have hS43 : ST w0 (bl [⟨B, 59, [.bool c.bad], 1⟩]) _ [⟨some ⟨b, 0, none⟩, 49, [vi A, vi B1, vi C, vi D, vi Exp], 5⟩, ⟨some ⟨b1, 0, none⟩, 49, [vi A1, vi B2, vi C1, vi D1, vi Exp1], 5⟩, ⟨some ⟨b2, 0, none⟩, 49, [vi r_7.Num.A, vi r_7.Num.B, vi r_7.Num.C, vi r_7.Num.D, vi r_7.Exp], 5⟩, ⟨B, 59, [.bool m3.bad], 1⟩] [] := hS43
              refine ⟨(ST.sel hS43 [0, 1] rfl rfl), ?_⟩
              refine ra_done (by kernel_rfl) ?_
              refine cw_ret ?_
              obtain ⟨rfl, rfl⟩ := pr2 (some_inj hF4)
              exact ret1 Tryd.results32 (v1 := .agg #[vi r_7.Num.A, vi r_7.Num.B, vi r_7.Num.C, vi r_7.Num.D, vi r_7.Exp]) (resAt_cellA (B := some ⟨b2, 0, none⟩) (i := 0) (cs := [vi r_7.Num.A, vi r_7.Num.B, vi r_7.Num.C, vi r_7.Num.D, vi r_7.Exp]) (vs := [vi r_7.Num.A, vi r_7.Num.B, vi r_7.Num.C, vi r_7.Num.D, vi r_7.Exp]) (hf2.get 6 3 rfl) k_ag_49 k_sz_49_5 (hS43.cf (i := 2) rfl) rfl rfl) ⟨rfl, (ST.subR (R' := []) (hS43.sel [3] rfl rfl) (fun _ h => by cases h))⟩
            exact allR_nil
          exact allR_nil
        exact allR_nil
      exact allR_nil

theorem c_spec_l1Mul (x : TRing) (y : TRing)  (w0 : World)  (hS : ST w0 [] w0 [] []) {r_ : TRing} (hF : F_spec_l1Mul x y = some r_) :
    CV Tryd.prog 56 #[.agg #[vi x.A, vi x.B, vi x.C, vi x.D], .agg #[vi y.A, vi y.B, vi y.C, vi y.D]] w0 (fun v w' => v = .agg #[vi r_.A, vi r_.B, vi r_.C, vi r_.D] ∧ ST w0 [] w' [] []) := by
  unfold F_spec_l1Mul at hF
  refine cv_of_cw 98 Tryd.func56 rfl Tryd.ntmps56 rfl ?_
  refine cw_seq ?_
  refine cw_region ?_
  refine ss 2 rfl rfl (Ys_box (T := 47) (v := .agg #[vi x.A, vi x.B, vi x.C, vi x.D]) (cs := [vi x.A, vi x.B, vi x.C, vi x.D]) (m := 4) hS rfl rfl rfl rfl) ?_
  rintro _ w_ ⟨b, rfl, hS1⟩
  refine ss 3 rfl rfl (Ys_box (T := 47) (v := .agg #[vi y.A, vi y.B, vi y.C, vi y.D]) (cs := [vi y.A, vi y.B, vi y.C, vi y.D]) (m := 4) hS1 rfl rfl rfl rfl) ?_
  rintro _ w_1 ⟨b1, rfl, hS2⟩
  have hS2 : ST w0 [] _ [⟨some ⟨b, 0, none⟩, 47, [vi x.A, vi x.B, vi x.C, vi x.D], 4⟩, ⟨some ⟨b1, 0, none⟩, 47, [vi y.A, vi y.B, vi y.C, vi y.D], 4⟩] [] := hS2
  refine ss 4 rfl rfl (Ys_alloc (T := 47) (cs := [vi 0, vi 0, vi 0, vi 0]) (m := 4) hS2 k_zero_47 rfl rfl rfl) ?_
  rintro _ w_2 ⟨b2, rfl, hS3⟩
  have hS3 : ST w0 [] _ [⟨some ⟨b, 0, none⟩, 47, [vi x.A, vi x.B, vi x.C, vi x.D], 4⟩, ⟨some ⟨b1, 0, none⟩, 47, [vi y.A, vi y.B, vi y.C, vi y.D], 4⟩, ⟨some ⟨b2, 0, none⟩, 47, [vi 0, vi 0, vi 0, vi 0], 4⟩] [] := hS3
  refine rw_nil ?_
  refine cw_seq ?_
  refine cw_region ?_
  refine sq 5 rfl rfl (Y_fieldAddr (B := some ⟨b, 0, none⟩) (i := 0) (s := 0) k_fd_47_0_0_3 k_sz_3_1 rfl rfl) ?_
  refine sq 6 rfl rfl (Y_load1 (B := some ⟨b, 0, none⟩) (i := 0) (cs := [vi x.A, vi x.B, vi x.C, vi x.D]) (v := vi x.A) k_sc_3 rfl rfl (hS3.cf (i := 0) rfl) rfl) ?_
  refine sq 7 rfl rfl (Y_fieldAddr (B := some ⟨b1, 0, none⟩) (i := 0) (s := 0) k_fd_47_0_0_3 k_sz_3_1 rfl rfl) ?_
  refine sq 8 rfl rfl (Y_load1 (B := some ⟨b1, 0, none⟩) (i := 0) (cs := [vi y.A, vi y.B, vi y.C, vi y.D]) (v := vi y.A) k_sc_3 rfl rfl (hS3.cf (i := 1) rfl) rfl) ?_
  refine sq 9 rfl rfl (Y_mul (k := .i64) (a := x.A) (b := y.A) rfl rfl rfl) ?_
  refine sq 10 rfl rfl (Y_fieldAddr (B := some ⟨b, 0, none⟩) (i := 0) (s := 0) k_fd_47_1_1_3 k_sz_3_1 rfl rfl) ?_
  refine sq 11 rfl rfl (Y_load1 (B := some ⟨b, 0, none⟩) (i := 1) (cs := [vi x.A, vi x.B, vi x.C, vi x.D]) (v := vi x.B) k_sc_3 rfl rfl (hS3.cf (i := 0) rfl) rfl) ?_
  refine sq 12 rfl rfl (Y_fieldAddr (B := some ⟨b1, 0, none⟩) (i := 0) (s := 0) k_fd_47_3_3_3 k_sz_3_1 rfl rfl) ?_
  refine sq 13 rfl rfl (Y_load1 (B := some ⟨b1, 0, none⟩) (i := 3) (cs := [vi y.A, vi y.B, vi y.C, vi y.D]) (v := vi y.D) k_sc_3 rfl rfl (hS3.cf (i := 1) rfl) rfl) ?_
  refine sq 14 rfl rfl (Y_mul (k := .i64) (a := x.B) (b := y.D) rfl rfl rfl) ?_
  refine sq 15 rfl rfl (Y_sub (k := .i64) (a := (i64.wrap (x.A * y.A))) (b := (i64.wrap (x.B * y.D))) rfl rfl rfl) ?_
  refine sq 16 rfl rfl (Y_fieldAddr (B := some ⟨b, 0, none⟩) (i := 0) (s := 0) k_fd_47_2_2_3 k_sz_3_1 rfl rfl) ?_
  refine sq 17 rfl rfl (Y_load1 (B := some ⟨b, 0, none⟩) (i := 2) (cs := [vi x.A, vi x.B, vi x.C, vi x.D]) (v := vi x.C) k_sc_3 rfl rfl (hS3.cf (i := 0) rfl) rfl) ?_
  refine sq 18 rfl rfl (Y_fieldAddr (B := some ⟨b1, 0, none⟩) (i := 0) (s := 0) k_fd_47_2_2_3 k_sz_3_1 rfl rfl) ?_
  refine sq 19 rfl rfl (Y_load1 (B := some ⟨b1, 0, none⟩) (i := 2) (cs := [vi y.A, vi y.B, vi y.C, vi y.D]) (v := vi y.C) k_sc_3 rfl rfl (hS3.cf (i := 1) rfl) rfl) ?_
  refine sq 20 rfl rfl (Y_mul (k := .i64) (a := x.C) (b := y.C) rfl rfl rfl) ?_
  refine sq 21 rfl rfl (Y_sub (k := .i64) (a := (i64.wrap ((i64.wrap (x.A * y.A)) - (i64.wrap (x.B * y.D))))) (b := (i64.wrap (x.C * y.C))) rfl rfl rfl) ?_
  refine sq 22 rfl rfl (Y_fieldAddr (B := some ⟨b, 0, none⟩) (i := 0) (s := 0) k_fd_47_3_3_3 k_sz_3_1 rfl rfl) ?_
  refine sq 23 rfl rfl (Y_load1 (B := some ⟨b, 0, none⟩) (i := 3) (cs := [vi x.A, vi x.B, vi x.C, vi x.D]) (v := vi x.D) k_sc_3 rfl rfl (hS3.cf (i := 0) rfl) rfl) ?_
  refine sq 24 rfl rfl (Y_fieldAddr (B := some ⟨b1, 0, none⟩) (i := 0) (s := 0) k_fd_47_1_1_3 k_sz_3_1 rfl rfl) ?_
  refine sq 25 rfl rfl (Y_load1 (B := some ⟨b1, 0, none⟩) (i := 1) (cs := [vi y.A, vi y.B, vi y.C, vi y.D]) (v := vi y.B) k_sc_3 rfl rfl (hS3.cf (i := 1) rfl) rfl) ?_
  refine sq 26 rfl rfl (Y_mul (k := .i64) (a := x.D) (b := y.B) rfl rfl rfl) ?_
  refine sq 27 rfl rfl (Y_sub (k := .i64) (a := (i64.wrap ((i64.wrap ((i64.wrap (x.A * y.A)) - (i64.wrap (x.B * y.D)))) - (i64.wrap (x.C * y.C))))) (b := (i64.wrap (x.D * y.B))) rfl rfl rfl) ?_
  refine sq 28 rfl rfl (Y_fieldAddr (B := some ⟨b, 0, none⟩) (i := 0) (s := 0) k_fd_47_0_0_3 k_sz_3_1 rfl rfl) ?_
  refine sq 29 rfl rfl (Y_load1 (B := some ⟨b, 0, none⟩) (i := 0) (cs := [vi x.A, vi x.B, vi x.C, vi x.D]) (v := vi x.A) k_sc_3 rfl rfl (hS3.cf (i := 0) rfl) rfl) ?_
  refine sq 30 rfl rfl (Y_fieldAddr (B := some ⟨b1, 0, none⟩) (i := 0) (s := 0) k_fd_47_1_1_3 k_sz_3_1 rfl rfl) ?_
  refine sq 31 rfl rfl (Y_load1 (B := some ⟨b1, 0, none⟩) (i := 1) (cs := [vi y.A, vi y.B, vi y.C, vi y.D]) (v := vi y.B) k_sc_3 rfl rfl (hS3.cf (i := 1) rfl) rfl) ?_
  refine sq 32 rfl rfl (Y_mul (k := .i64) (a := x.A) (b := y.B) rfl rfl rfl) ?_
  refine sq 33 rfl rfl (Y_fieldAddr (B := some ⟨b, 0, none⟩) (i := 0) (s := 0) k_fd_47_1_1_3 k_sz_3_1 rfl rfl) ?_
  refine sq 34 rfl rfl (Y_load1 (B := some ⟨b, 0, none⟩) (i := 1) (cs := [vi x.A, vi x.B, vi x.C, vi x.D]) (v := vi x.B) k_sc_3 rfl rfl (hS3.cf (i := 0) rfl) rfl) ?_
  refine sq 35 rfl rfl (Y_fieldAddr (B := some ⟨b1, 0, none⟩) (i := 0) (s := 0) k_fd_47_0_0_3 k_sz_3_1 rfl rfl) ?_
  refine sq 36 rfl rfl (Y_load1 (B := some ⟨b1, 0, none⟩) (i := 0) (cs := [vi y.A, vi y.B, vi y.C, vi y.D]) (v := vi y.A) k_sc_3 rfl rfl (hS3.cf (i := 1) rfl) rfl) ?_
  refine sq 37 rfl rfl (Y_mul (k := .i64) (a := x.B) (b := y.A) rfl rfl rfl) ?_
  refine sq 38 rfl rfl (Y_add (k := .i64) (a := (i64.wrap (x.A * y.B))) (b := (i64.wrap (x.B * y.A))) rfl rfl rfl) ?_
  refine sq 39 rfl rfl (Y_fieldAddr (B := some ⟨b, 0, none⟩) (i := 0) (s := 0) k_fd_47_2_2_3 k_sz_3_1 rfl rfl) ?_
  refine sq 40 rfl rfl (Y_load1 (B := some ⟨b, 0, none⟩) (i := 2) (cs := [vi x.A, vi x.B, vi x.C, vi x.D]) (v := vi x.C) k_sc_3 rfl rfl (hS3.cf (i := 0) rfl) rfl) ?_
  refine sq 41 rfl rfl (Y_fieldAddr (B := some ⟨b1, 0, none⟩) (i := 0) (s := 0) k_fd_47_3_3_3 k_sz_3_1 rfl rfl) ?_
  refine sq 42 rfl rfl (Y_load1 (B := some ⟨b1, 0, none⟩) (i := 3) (cs := [vi y.A, vi y.B, vi y.C, vi y.D]) (v := vi y.D) k_sc_3 rfl rfl (hS3.cf (i := 1) rfl) rfl) ?_
  refine sq 43 rfl rfl (Y_mul (k := .i64) (a := x.C) (b := y.D) rfl rfl rfl) ?_
  refine sq 44 rfl rfl (Y_sub (k := .i64) (a := (i64.wrap ((i64.wrap (x.A * y.B)) + (i64.wrap (x.B * y.A))))) (b := (i64.wrap (x.C * y.D))) rfl rfl rfl) ?_
  refine sq 45 rfl rfl (Y_fieldAddr (B := some ⟨b, 0, none⟩) (i := 0) (s := 0) k_fd_47_3_3_3 k_sz_3_1 rfl rfl) ?_
  refine sq 46 rfl rfl (Y_load1 (B := some ⟨b, 0, none⟩) (i := 3) (cs := [vi x.A, vi x.B, vi x.C, vi x.D]) (v := vi x.D) k_sc_3 rfl rfl (hS3.cf (i := 0) rfl) rfl) ?_
  refine sq 47 rfl rfl (Y_fieldAddr (B := some ⟨b1, 0, none⟩) (i := 0) (s := 0) k_fd_47_2_2_3 k_sz_3_1 rfl rfl) ?_
  refine sq 48 rfl rfl (Y_load1 (B := some ⟨b1, 0, none⟩) (i := 2) (cs := [vi y.A, vi y.B, vi y.C, vi y.D]) (v := vi y.C) k_sc_3 rfl rfl (hS3.cf (i := 1) rfl) rfl) ?_
  refine sq 49 rfl rfl (Y_mul (k := .i64) (a := x.D) (b := y.C) rfl rfl rfl) ?_
  refine sq 50 rfl rfl (Y_sub (k := .i64) (a := (i64.wrap ((i64.wrap ((i64.wrap (x.A * y.B)) + (i64.wrap (x.B * y.A)))) - (i64.wrap (x.C * y.D))))) (b := (i64.wrap (x.D * y.C))) rfl rfl rfl) ?_
  refine sq 51 rfl rfl (Y_fieldAddr (B := some ⟨b, 0, none⟩) (i := 0) (s := 0) k_fd_47_0_0_3 k_sz_3_1 rfl rfl) ?_
  refine sq 52 rfl rfl (Y_load1 (B := some ⟨b, 0, none⟩) (i := 0) (cs := [vi x.A, vi x.B, vi x.C, vi x.D]) (v := vi x.A) k_sc_3 rfl rfl (hS3.cf (i := 0) rfl) rfl) ?_
  refine sq 53 rfl rfl (Y_fieldAddr (B := some ⟨b1, 0, none⟩) (i := 0) (s := 0) k_fd_47_2_2_3 k_sz_3_1 rfl rfl) ?_
  refine sq 54 rfl rfl (Y_load1 (B := some ⟨b1, 0, none⟩) (i := 2) (cs := [vi y.A, vi y.B, vi y.C, vi y.D]) (v := vi y.C) k_sc_3 rfl rfl (hS3.cf (i := 1) rfl) rfl) ?_
  refine sq 55 rfl rfl (Y_mul (k := .i64) (a := x.A) (b := y.C) rfl rfl rfl) ?_
  refine sq 56 rfl rfl (Y_fieldAddr (B := some ⟨b, 0, none⟩) (i := 0) (s := 0) k_fd_47_1_1_3 k_sz_3_1 rfl rfl) ?_
  refine sq 57 rfl rfl (Y_load1 (B := some ⟨b, 0, none⟩) (i := 1) (cs := [vi x.A, vi x.B, vi x.C, vi x.D]) (v := vi x.B) k_sc_3 rfl rfl (hS3.cf (i := 0) rfl) rfl) ?_
  refine sq 58 rfl rfl (Y_fieldAddr (B := some ⟨b1, 0, none⟩) (i := 0) (s := 0) k_fd_47_1_1_3 k_sz_3_1 rfl rfl) ?_
  refine sq 59 rfl rfl (Y_load1 (B := some ⟨b1, 0, none⟩) (i := 1) (cs := [vi y.A, vi y.B, vi y.C, vi y.D]) (v := vi y.B) k_sc_3 rfl rfl (hS3.cf (i := 1) rfl) rfl) ?_
  refine sq 60 rfl rfl (Y_mul (k := .i64) (a := x.B) (b := y.B) rfl rfl rfl) ?_
  refine sq 61 rfl rfl (Y_add (k := .i64) (a := (i64.wrap (x.A * y.C))) (b := (i64.wrap (x.B * y.B))) rfl rfl rfl) ?_
  refine sq 62 rfl rfl (Y_fieldAddr (B := some ⟨b, 0, none⟩) (i := 0) (s := 0) k_fd_47_2_2_3 k_sz_3_1 rfl rfl) ?_
  refine sq 63 rfl rfl (Y_load1 (B := some ⟨b, 0, none⟩) (i := 2) (cs := [vi x.A, vi x.B, vi x.C, vi x.D]) (v := vi x.C) k_sc_3 rfl rfl (hS3.cf (i := 0) rfl) rfl) ?_
  refine sq 64 rfl rfl (Y_fieldAddr (B := some ⟨b1, 0, none⟩) (i := 0) (s := 0) k_fd_47_0_0_3 k_sz_3_1 rfl rfl) ?_
  refine sq 65 rfl rfl (Y_load1 (B := some ⟨b1, 0, none⟩) (i := 0) (cs := [vi y.A, vi y.B, vi y.C, vi y.D]) (v := vi y.A) k_sc_3 rfl rfl (hS3.cf (i := 1) rfl) rfl) ?_
  refine sq 66 rfl rfl (Y_mul (k := .i64) (a := x.C) (b := y.A) rfl rfl rfl) ?_
  refine sq 67 rfl rfl (Y_add (k := .i64) (a := (i64.wrap ((i64.wrap (x.A * y.C)) + (i64.wrap (x.B * y.B))))) (b := (i64.wrap (x.C * y.A))) rfl rfl rfl) ?_
  refine sq 68 rfl rfl (Y_fieldAddr (B := some ⟨b, 0, none⟩) (i := 0) (s := 0) k_fd_47_3_3_3 k_sz_3_1 rfl rfl) ?_
  refine sq 69 rfl rfl (Y_load1 (B := some ⟨b, 0, none⟩) (i := 3) (cs := [vi x.A, vi x.B, vi x.C, vi x.D]) (v := vi x.D) k_sc_3 rfl rfl (hS3.cf (i := 0) rfl) rfl) ?_
  refine sq 70 rfl rfl (Y_fieldAddr (B := some ⟨b1, 0, none⟩) (i := 0) (s := 0) k_fd_47_3_3_3 k_sz_3_1 rfl rfl) ?_
  refine sq 71 rfl rfl (Y_load1 (B := some ⟨b1, 0, none⟩) (i := 3) (cs := [vi y.A, vi y.B, vi y.C, vi y.D]) (v := vi y.D) k_sc_3 rfl rfl (hS3.cf (i := 1) rfl) rfl) ?_
  refine sq 72 rfl rfl (Y_mul (k := .i64) (a := x.D) (b := y.D) rfl rfl rfl) ?_
  refine sq 73 rfl rfl (Y_sub (k := .i64) (a := (i64.wrap ((i64.wrap ((i64.wrap (x.A * y.C)) + (i64.wrap (x.B * y.B)))) + (i64.wrap (x.C * y.A))))) (b := (i64.wrap (x.D * y.D))) rfl rfl rfl) ?_
  refine sq 74 rfl rfl (Y_fieldAddr (B := some ⟨b, 0, none⟩) (i := 0) (s := 0) k_fd_47_0_0_3 k_sz_3_1 rfl rfl) ?_
  refine sq 75 rfl rfl (Y_load1 (B := some ⟨b, 0, none⟩) (i := 0) (cs := [vi x.A, vi x.B, vi x.C, vi x.D]) (v := vi x.A) k_sc_3 rfl rfl (hS3.cf (i := 0) rfl) rfl) ?_
  refine sq 76 rfl rfl (Y_fieldAddr (B := some ⟨b1, 0, none⟩) (i := 0) (s := 0) k_fd_47_3_3_3 k_sz_3_1 rfl rfl) ?_
  refine sq 77 rfl rfl (Y_load1 (B := some ⟨b1, 0, none⟩) (i := 3) (cs := [vi y.A, vi y.B, vi y.C, vi y.D]) (v := vi y.D) k_sc_3 rfl rfl (hS3.cf (i := 1) rfl) rfl) ?_
  refine sq 78 rfl rfl (Y_mul (k := .i64) (a := x.A) (b := y.D) rfl rfl rfl) ?_
  refine sq 79 rfl rfl (Y_fieldAddr (B := some ⟨b, 0, none⟩) (i := 0) (s := 0) k_fd_47_1_1_3 k_sz_3_1 rfl rfl) ?_
  refine sq 80 rfl rfl (Y_load1 (B := some ⟨b, 0, none⟩) (i := 1) (cs := [vi x.A, vi x.B, vi x.C, vi x.D]) (v := vi x.B) k_sc_3 rfl rfl (hS3.cf (i := 0) rfl) rfl) ?_
  refine sq 81 rfl rfl (Y_fieldAddr (B := some ⟨b1, 0, none⟩) (i := 0) (s := 0) k_fd_47_2_2_3 k_sz_3_1 rfl rfl) ?_
  refine sq 82 rfl rfl (Y_load1 (B := some ⟨b1, 0, none⟩) (i := 2) (cs := [vi y.A, vi y.B, vi y.C, vi y.D]) (v := vi y.C) k_sc_3 rfl rfl (hS3.cf (i := 1) rfl) rfl) ?_
  refine sq 83 rfl rfl (Y_mul (k := .i64) (a := x.B) (b := y.C) rfl rfl rfl) ?_
  refine sq 84 rfl rfl (Y_add (k := .i64) (a := (i64.wrap (x.A * y.D))) (b := (i64.wrap (x.B * y.C))) rfl rfl rfl) ?_
  refine sq 85 rfl rfl (Y_fieldAddr (B := some ⟨b, 0, none⟩) (i := 0) (s := 0) k_fd_47_2_2_3 k_sz_3_1 rfl rfl) ?_
  refine sq 86 rfl rfl (Y_load1 (B := some ⟨b, 0, none⟩) (i := 2) (cs := [vi x.A, vi x.B, vi x.C, vi x.D]) (v := vi x.C) k_sc_3 rfl rfl (hS3.cf (i := 0) rfl) rfl) ?_
  refine sq 87 rfl rfl (Y_fieldAddr (B := some ⟨b1, 0, none⟩) (i := 0) (s := 0) k_fd_47_1_1_3 k_sz_3_1 rfl rfl) ?_
  refine sq 88 rfl rfl (Y_load1 (B := some ⟨b1, 0, none⟩) (i := 1) (cs := [vi y.A, vi y.B, vi y.C, vi y.D]) (v := vi y.B) k_sc_3 rfl rfl (hS3.cf (i := 1) rfl) rfl) ?_
  refine sq 89 rfl rfl (Y_mul (k := .i64) (a := x.C) (b := y.B) rfl rfl rfl) ?_
  refine sq 90 rfl rfl (Y_add (k := .i64) (a := (i64.wrap ((i64.wrap (x.A * y.D)) + (i64.wrap (x.B * y.C))))) (b := (i64.wrap (x.C * y.B))) rfl rfl rfl) ?_
  refine sq 91 rfl rfl (Y_fieldAddr (B := some ⟨b, 0, none⟩) (i := 0) (s := 0) k_fd_47_3_3_3 k_sz_3_1 rfl rfl) ?_
  refine sq 92 rfl rfl (Y_load1 (B := some ⟨b, 0, none⟩) (i := 3) (cs := [vi x.A, vi x.B, vi x.C, vi x.D]) (v := vi x.D) k_sc_3 rfl rfl (hS3.cf (i := 0) rfl) rfl) ?_
  refine sq 93 rfl rfl (Y_fieldAddr (B := some ⟨b1, 0, none⟩) (i := 0) (s := 0) k_fd_47_0_0_3 k_sz_3_1 rfl rfl) ?_
  refine sq 94 rfl rfl (Y_load1 (B := some ⟨b1, 0, none⟩) (i := 0) (cs := [vi y.A, vi y.B, vi y.C, vi y.D]) (v := vi y.A) k_sc_3 rfl rfl (hS3.cf (i := 1) rfl) rfl) ?_
  refine sq 95 rfl rfl (Y_mul (k := .i64) (a := x.D) (b := y.A) rfl rfl rfl) ?_
  refine sq 96 rfl rfl (Y_add (k := .i64) (a := (i64.wrap ((i64.wrap ((i64.wrap (x.A * y.D)) + (i64.wrap (x.B * y.C)))) + (i64.wrap (x.C * y.B))))) (b := (i64.wrap (x.D * y.A))) rfl rfl rfl) ?_
  refine sq 97 rfl rfl (Y_buildS (zs := [vi 0, vi 0, vi 0, vi 0]) (vs := [(0, vi (i64.wrap ((i64.wrap ((i64.wrap ((i64.wrap (x.A * y.A)) - (i64.wrap (x.B * y.D)))) - (i64.wrap (x.C * y.C)))) - (i64.wrap (x.D * y.B))))), (1, vi (i64.wrap ((i64.wrap ((i64.wrap ((i64.wrap (x.A * y.B)) + (i64.wrap (x.B * y.A)))) - (i64.wrap (x.C * y.D)))) - (i64.wrap (x.D * y.C))))), (2, vi (i64.wrap ((i64.wrap ((i64.wrap ((i64.wrap (x.A * y.C)) + (i64.wrap (x.B * y.B)))) + (i64.wrap (x.C * y.A)))) - (i64.wrap (x.D * y.D))))), (3, vi (i64.wrap ((i64.wrap ((i64.wrap ((i64.wrap (x.A * y.D)) + (i64.wrap (x.B * y.C)))) + (i64.wrap (x.C * y.B)))) + (i64.wrap (x.D * y.A)))))]) (cs := [vi (i64.wrap ((i64.wrap ((i64.wrap ((i64.wrap (x.A * y.A)) - (i64.wrap (x.B * y.D)))) - (i64.wrap (x.C * y.C)))) - (i64.wrap (x.D * y.B)))), vi (i64.wrap ((i64.wrap ((i64.wrap ((i64.wrap (x.A * y.B)) + (i64.wrap (x.B * y.A)))) - (i64.wrap (x.C * y.D)))) - (i64.wrap (x.D * y.C)))), vi (i64.wrap ((i64.wrap ((i64.wrap ((i64.wrap (x.A * y.C)) + (i64.wrap (x.B * y.B)))) + (i64.wrap (x.C * y.A)))) - (i64.wrap (x.D * y.D)))), vi (i64.wrap ((i64.wrap ((i64.wrap ((i64.wrap (x.A * y.D)) + (i64.wrap (x.B * y.C)))) + (i64.wrap (x.C * y.B)))) + (i64.wrap (x.D * y.A))))]) k_pl_47 k_zero_47 rfl (mpc rfl (mpc rfl (mpc rfl (mpc rfl mpn)))) rfl) ?_
  refine ss0 rfl rfl (Ys_store (i := 2) (s := 4) (B := some ⟨b2, 0, none⟩) (T' := 47) (v := .agg #[vi (i64.wrap ((i64.wrap ((i64.wrap ((i64.wrap (x.A * y.A)) - (i64.wrap (x.B * y.D)))) - (i64.wrap (x.C * y.C)))) - (i64.wrap (x.D * y.B)))), vi (i64.wrap ((i64.wrap ((i64.wrap ((i64.wrap (x.A * y.B)) + (i64.wrap (x.B * y.A)))) - (i64.wrap (x.C * y.D)))) - (i64.wrap (x.D * y.C)))), vi (i64.wrap ((i64.wrap ((i64.wrap ((i64.wrap (x.A * y.C)) + (i64.wrap (x.B * y.B)))) + (i64.wrap (x.C * y.A)))) - (i64.wrap (x.D * y.D)))), vi (i64.wrap ((i64.wrap ((i64.wrap ((i64.wrap (x.A * y.D)) + (i64.wrap (x.B * y.C)))) + (i64.wrap (x.C * y.B)))) + (i64.wrap (x.D * y.A))))]) (vs := [vi (i64.wrap ((i64.wrap ((i64.wrap ((i64.wrap (x.A * y.A)) - (i64.wrap (x.B * y.D)))) - (i64.wrap (x.C * y.C)))) - (i64.wrap (x.D * y.B)))), vi (i64.wrap ((i64.wrap ((i64.wrap ((i64.wrap (x.A * y.B)) + (i64.wrap (x.B * y.A)))) - (i64.wrap (x.C * y.D)))) - (i64.wrap (x.D * y.C)))), vi (i64.wrap ((i64.wrap ((i64.wrap ((i64.wrap (x.A * y.C)) + (i64.wrap (x.B * y.B)))) + (i64.wrap (x.C * y.A)))) - (i64.wrap (x.D * y.D)))), vi (i64.wrap ((i64.wrap ((i64.wrap ((i64.wrap (x.A * y.D)) + (i64.wrap (x.B * y.C)))) + (i64.wrap (x.C * y.B)))) + (i64.wrap (x.D * y.A))))]) (k := 0) (cs' := [vi (i64.wrap ((i64.wrap ((i64.wrap ((i64.wrap (x.A * y.A)) - (i64.wrap (x.B * y.D)))) - (i64.wrap (x.C * y.C)))) - (i64.wrap (x.D * y.B)))), vi (i64.wrap ((i64.wrap ((i64.wrap ((i64.wrap (x.A * y.B)) + (i64.wrap (x.B * y.A)))) - (i64.wrap (x.C * y.D)))) - (i64.wrap (x.D * y.C)))), vi (i64.wrap ((i64.wrap ((i64.wrap ((i64.wrap (x.A * y.C)) + (i64.wrap (x.B * y.B)))) + (i64.wrap (x.C * y.A)))) - (i64.wrap (x.D * y.D)))), vi (i64.wrap ((i64.wrap ((i64.wrap ((i64.wrap (x.A * y.D)) + (i64.wrap (x.B * y.C)))) + (i64.wrap (x.C * y.B)))) + (i64.wrap (x.D * y.A))))]) hS3 k_sz_47_4 rfl rfl rfl rfl rfl rfl rfl (Nat.le_of_ble_eq_true rfl) rfl rfl) ?_
  rintro _ w_3 ⟨rfl, hS4⟩
  have hS4 : ST w0 [] _ [⟨some ⟨b, 0, none⟩, 47, [vi x.A, vi x.B, vi x.C, vi x.D], 4⟩, ⟨some ⟨b1, 0, none⟩, 47, [vi y.A, vi y.B, vi y.C, vi y.D], 4⟩, ⟨some ⟨b2, 0, none⟩, 47, [vi (i64.wrap ((i64.wrap ((i64.wrap ((i64.wrap (x.A * y.A)) - (i64.wrap (x.B * y.D)))) - (i64.wrap (x.C * y.C)))) - (i64.wrap (x.D * y.B)))), vi (i64.wrap ((i64.wrap ((i64.wrap ((i64.wrap (x.A * y.B)) + (i64.wrap (x.B * y.A)))) - (i64.wrap (x.C * y.D)))) - (i64.wrap (x.D * y.C)))), vi (i64.wrap ((i64.wrap ((i64.wrap ((i64.wrap (x.A * y.C)) + (i64.wrap (x.B * y.B)))) + (i64.wrap (x.C * y.A)))) - (i64.wrap (x.D * y.D)))), vi (i64.wrap ((i64.wrap ((i64.wrap ((i64.wrap (x.A * y.D)) + (i64.wrap (x.B * y.C)))) + (i64.wrap (x.C * y.B)))) + (i64.wrap (x.D * y.A))))], 4⟩] [] := hS4
  refine rw_nil ?_
  refine cw_ret ?_
  obtain rfl := some_inj hF
  exact ret1 Tryd.results56 (v1 := .agg #[vi (i64.wrap ((i64.wrap ((i64.wrap ((i64.wrap (x.A * y.A)) - (i64.wrap (x.B * y.D)))) - (i64.wrap (x.C * y.C)))) - (i64.wrap (x.D * y.B)))), vi (i64.wrap ((i64.wrap ((i64.wrap ((i64.wrap (x.A * y.B)) + (i64.wrap (x.B * y.A)))) - (i64.wrap (x.C * y.D)))) - (i64.wrap (x.D * y.C)))), vi (i64.wrap ((i64.wrap ((i64.wrap ((i64.wrap (x.A * y.C)) + (i64.wrap (x.B * y.B)))) + (i64.wrap (x.C * y.A)))) - (i64.wrap (x.D * y.D)))), vi (i64.wrap ((i64.wrap ((i64.wrap ((i64.wrap (x.A * y.D)) + (i64.wrap (x.B * y.C)))) + (i64.wrap (x.C * y.B)))) + (i64.wrap (x.D * y.A))))]) (resAt_cellA (B := some ⟨b2, 0, none⟩) (i := 0) (cs := [vi (i64.wrap ((i64.wrap ((i64.wrap ((i64.wrap (x.A * y.A)) - (i64.wrap (x.B * y.D)))) - (i64.wrap (x.C * y.C)))) - (i64.wrap (x.D * y.B)))), vi (i64.wrap ((i64.wrap ((i64.wrap ((i64.wrap (x.A * y.B)) + (i64.wrap (x.B * y.A)))) - (i64.wrap (x.C * y.D)))) - (i64.wrap (x.D * y.C)))), vi (i64.wrap ((i64.wrap ((i64.wrap ((i64.wrap (x.A * y.C)) + (i64.wrap (x.B * y.B)))) + (i64.wrap (x.C * y.A)))) - (i64.wrap (x.D * y.D)))), vi (i64.wrap ((i64.wrap ((i64.wrap ((i64.wrap (x.A * y.D)) + (i64.wrap (x.B * y.C)))) + (i64.wrap (x.C * y.B)))) + (i64.wrap (x.D * y.A))))]) (vs := [vi (i64.wrap ((i64.wrap ((i64.wrap ((i64.wrap (x.A * y.A)) - (i64.wrap (x.B * y.D)))) - (i64.wrap (x.C * y.C)))) - (i64.wrap (x.D * y.B)))), vi (i64.wrap ((i64.wrap ((i64.wrap ((i64.wrap (x.A * y.B)) + (i64.wrap (x.B * y.A)))) - (i64.wrap (x.C * y.D)))) - (i64.wrap (x.D * y.C)))), vi (i64.wrap ((i64.wrap ((i64.wrap ((i64.wrap (x.A * y.C)) + (i64.wrap (x.B * y.B)))) + (i64.wrap (x.C * y.A)))) - (i64.wrap (x.D * y.D)))), vi (i64.wrap ((i64.wrap ((i64.wrap ((i64.wrap (x.A * y.D)) + (i64.wrap (x.B * y.C)))) + (i64.wrap (x.C * y.B)))) + (i64.wrap (x.D * y.A))))]) rfl k_ag_47 k_sz_47_4 (hS4.cf (i := 2) rfl) rfl rfl) ⟨rfl, (ST.subR (R' := []) (hS4.sel [] rfl rfl) (fun _ h => by cases h))⟩

theorem c_spec_l2C_mul (c : Tl2C) (x : TDyadic) (y : TDyadic) (B : Option Addr) (w0 : World)  (hS : ST w0 (bl [⟨B, 59, [.bool c.bad], 1⟩]) w0 [⟨B, 59, [.bool c.bad], 1⟩] []) {r_ : TDyadic} {m : Tl2C} (hF : F_spec_l2C_mul c x y = some (r_, m)) :
    CV Tryd.prog 33 #[pt B 0, .agg #[vi x.Num.A, vi x.Num.B, vi x.Num.C, vi x.Num.D, vi x.Exp], .agg #[vi y.Num.A, vi y.Num.B, vi y.Num.C, vi y.Num.D, vi y.Exp]] w0 (fun v w' => v = .agg #[vi r_.Num.A, vi r_.Num.B, vi r_.Num.C, vi r_.Num.D, vi r_.Exp] ∧ ST w0 (bl [⟨B, 59, [.bool c.bad], 1⟩]) w' [⟨B, 59, [.bool m.bad], 1⟩] []) := by
  unfold F_spec_l2C_mul at hF
  refine cv_of_cw 30 Tryd.func33 rfl Tryd.ntmps33 rfl ?_
  refine cw_seq ?_
  refine cw_region ?_
  refine ss 4 rfl rfl (Ys_box (T := 49) (v := .agg #[vi x.Num.A, vi x.Num.B, vi x.Num.C, vi x.Num.D, vi x.Exp]) (cs := [vi x.Num.A, vi x.Num.B, vi x.Num.C, vi x.Num.D, vi x.Exp]) (m := 5) hS rfl rfl rfl rfl) ?_
  rintro _ w_ ⟨b, rfl, hS1⟩
  have hS1 : ST w0 (bl [⟨B, 59, [.bool c.bad], 1⟩]) _ [⟨B, 59, [.bool c.bad], 1⟩, ⟨some ⟨b, 0, none⟩, 49, [vi x.Num.A, vi x.Num.B, vi x.Num.C, vi x.Num.D, vi x.Exp], 5⟩] [] := hS1
  refine ss 5 rfl rfl (Ys_box (T := 49) (v := .agg #[vi y.Num.A, vi y.Num.B, vi y.Num.C, vi y.Num.D, vi y.Exp]) (cs := [vi y.Num.A, vi y.Num.B, vi y.Num.C, vi y.Num.D, vi y.Exp]) (m := 5) hS1 rfl rfl rfl rfl) ?_
  rintro _ w_1 ⟨b1, rfl, hS2⟩
  have hS2 : ST w0 (bl [⟨B, 59, [.bool c.bad], 1⟩]) _ [⟨B, 59, [.bool c.bad], 1⟩, ⟨some ⟨b, 0, none⟩, 49, [vi x.Num.A, vi x.Num.B, vi x.Num.C, vi x.Num.D, vi x.Exp], 5⟩, ⟨some ⟨b1, 0, none⟩, 49, [vi y.Num.A, vi y.Num.B, vi y.Num.C, vi y.Num.D, vi y.Exp], 5⟩] [] := hS2
  refine ss 6 rfl rfl (Ys_alloc (T := 49) (cs := [vi 0, vi 0, vi 0, vi 0, vi 0]) (m := 5) hS2 k_zero_49 rfl rfl rfl) ?_
  rintro _ w_2 ⟨b2, rfl, hS3⟩
  have hS3 : ST w0 (bl [⟨B, 59, [.bool c.bad], 1⟩]) _ [⟨B, 59, [.bool c.bad], 1⟩, ⟨some ⟨b, 0, none⟩, 49, [vi x.Num.A, vi x.Num.B, vi x.Num.C, vi x.Num.D, vi x.Exp], 5⟩, ⟨some ⟨b1, 0, none⟩, 49, [vi y.Num.A, vi y.Num.B, vi y.Num.C, vi y.Num.D, vi y.Exp], 5⟩, ⟨some ⟨b2, 0, none⟩, 49, [vi 0, vi 0, vi 0, vi 0, vi 0], 5⟩] [] := hS3
  refine rw_nil ?_
  refine cw_seq ?_
  refine cw_seq ?_
  refine cw_region ?_
  refine sq 7 rfl rfl (Y_fieldAddr (B := some ⟨b, 0, none⟩) (i := 0) (s := 0) k_fd_49_1_4_3 k_sz_3_1 rfl rfl) ?_
  refine sq 8 rfl rfl (Y_load1 (B := some ⟨b, 0, none⟩) (i := 4) (cs := [vi x.Num.A, vi x.Num.B, vi x.Num.C, vi x.Num.D, vi x.Exp]) (v := vi x.Exp) k_sc_3 rfl rfl (hS3.cf (i := 1) rfl) rfl) ?_
  refine sq 9 rfl rfl (Y_fieldAddr (B := some ⟨b1, 0, none⟩) (i := 0) (s := 0) k_fd_49_1_4_3 k_sz_3_1 rfl rfl) ?_
  refine sq 10 rfl rfl (Y_load1 (B := some ⟨b1, 0, none⟩) (i := 4) (cs := [vi y.Num.A, vi y.Num.B, vi y.Num.C, vi y.Num.D, vi y.Exp]) (v := vi y.Exp) k_sc_3 rfl rfl (hS3.cf (i := 2) rfl) rfl) ?_
  refine sq 11 rfl rfl (Y_add (k := .i64) (a := x.Exp) (b := y.Exp) rfl rfl rfl) ?_
  refine sq 12 rfl rfl (Y_gt (k := .i64) (a := (i64.wrap (x.Exp + y.Exp))) (b := 60) rfl rfl rfl) ?_
  refine rw_nil ?_
  refine cw_cond (b := (decide (60 < (i64.wrap (x.Exp + y.Exp))))) rfl (fun hb => ?_) (fun hb => ?_)
  · skip
    have hF1 := ct hF hb
    refine cw_seq ?_
    refine cw_region ?_
    refine sq 13 rfl rfl (Y_move (v := pt B 0) rfl rfl) ?_
    refine sq 14 rfl rfl (Y_nilCheck (B := B) (i := 0) rfl rfl) ?_
    refine sq 15 rfl rfl (Y_fieldAddr (B := B) (i := 0) (s := 0) k_fd_59_0_0_4 k_sz_4_1 rfl rfl) ?_
    refine ss0 rfl rfl (Ys_store (i := 0) (s := 1) (B := B) (T' := 59) (v := .bool true) (vs := [.bool true]) (k := 0) (cs' := [.bool true]) hS3 k_sz_4_1 rfl rfl rfl rfl rfl rfl rfl (Nat.le_of_ble_eq_true rfl) rfl rfl) ?_
    rintro _ w_3 ⟨rfl, hS4⟩
    have hS4 : ST w0 (bl [⟨B, 59, [.bool c.bad], 1⟩]) _ [⟨B, 59, [.bool true], 1⟩, ⟨some ⟨b, 0, none⟩, 49, [vi x.Num.A, vi x.Num.B, vi x.Num.C, vi x.Num.D, vi x.Exp], 5⟩, ⟨some ⟨b1, 0, none⟩, 49, [vi y.Num.A, vi y.Num.B, vi y.Num.C, vi y.Num.D, vi y.Exp], 5⟩, ⟨some ⟨b2, 0, none⟩, 49, [vi 0, vi 0, vi 0, vi 0, vi 0], 5⟩] [] := hS4
    refine rw_nil ?_
    refine cw_seq ?_
    refine cw_region ?_
    refine sq 16 rfl rfl (Y_buildS (zs := [vi 0, vi 0, vi 0, vi 0, vi 0]) (vs := []) (cs := [vi 0, vi 0, vi 0, vi 0, vi 0]) k_pl_49 k_zero_49 rfl mpn rfl) ?_
    refine ss0 rfl rfl (Ys_store (i := 3) (s := 5) (B := some ⟨b2, 0, none⟩) (T' := 49) (v := .agg #[vi 0, vi 0, vi 0, vi 0, vi 0]) (vs := [vi 0, vi 0, vi 0, vi 0, vi 0]) (k := 0) (cs' := [vi 0, vi 0, vi 0, vi 0, vi 0]) hS4 k_sz_49_5 rfl rfl rfl rfl rfl rfl rfl (Nat.le_of_ble_eq_true rfl) rfl rfl) ?_
    rintro _ w_4 ⟨rfl, hS5⟩
    have hS5 : ST w0 (bl [⟨B, 59, [.bool c.bad], 1⟩]) _ [⟨B, 59, [.bool true], 1⟩, ⟨some ⟨b, 0, none⟩, 49, [vi x.Num.A, vi x.Num.B, vi x.Num.C, vi x.Num.D, vi x.Exp], 5⟩, ⟨some ⟨b1, 0, none⟩, 49, [vi y.Num.A, vi y.Num.B, vi y.Num.C, vi y.Num.D, vi y.Exp], 5⟩, ⟨some ⟨b2, 0, none⟩, 49, [vi 0, vi 0, vi 0, vi 0, vi 0], 5⟩] [] := hS5
    refine rw_nil ?_
    refine cw_ret ?_
    obtain ⟨rfl, rfl⟩ := pr2 (some_inj hF1)
    exact ret1 Tryd.results33 (v1 := .agg #[vi 0, vi 0, vi 0, vi 0, vi 0]) (resAt_cellA (B := some ⟨b2, 0, none⟩) (i := 0) (cs := [vi 0, vi 0, vi 0, vi 0, vi 0]) (vs := [vi 0, vi 0, vi 0, vi 0, vi 0]) rfl k_ag_49 k_sz_49_5 (hS5.cf (i := 3) rfl) rfl rfl) ⟨rfl, (ST.subR (R' := []) (hS5.sel [0] rfl rfl) (fun _ h => by cases h))⟩
  · skip
    have hF2 := cf' hF hb
    refine cw_skip ?_
    refine cw_seq ?_
    obtain ⟨r_1, hc, hF2⟩ := bind_inv hF2
    obtain ⟨⟨r_2, m1⟩, hc1, hF2⟩ := bind_inv hF2
    obtain ⟨r_3, hc2, hF2⟩ := bind_inv hF2
    refine ra_start (ST.sel hS3 [1, 2] rfl rfl).fn (by kernel_rfl) ?_
    have hS9 := hS3.drew
    refine ra_q 0 17 (v := pt B 0) rfl rfl rfl (by kernel_rfl) (by kernel_rfl) (by kernel_rfl) (ST.sel hS9 [1, 2] rfl rfl) (fun w' hw' => (Y_move (v := pt B 0) rfl rfl)) ?_
    refine ra_q 1 18 (v := pt (some ⟨b, 0, none⟩) 0) rfl rfl rfl (by kernel_rfl) (by kernel_rfl) (by kernel_rfl) (ST.sel hS9 [1, 2] rfl rfl) (fun w' hw' => (Y_fieldAddr (B := some ⟨b, 0, none⟩) (i := 0) (s := 3) k_fd_49_0_0_47 k_sz_47_4 rfl rfl)) ?_
    refine ra_q 2 19 (v := .agg #[vi x.Num.A, vi x.Num.B, vi x.Num.C, vi x.Num.D]) rfl rfl rfl (by kernel_rfl) (by kernel_rfl) (by kernel_rfl) (ST.sel hS9 [1, 2] rfl rfl) (fun w' hw' => (Y_loadA (B := some ⟨b, 0, none⟩) (i := 0) (cs := [vi x.Num.A, vi x.Num.B, vi x.Num.C, vi x.Num.D, vi x.Exp]) (vs := [vi x.Num.A, vi x.Num.B, vi x.Num.C, vi x.Num.D]) k_ag_47 k_sz_47_4 rfl rfl (ST.cf hw' (i := 0) rfl) rfl rfl)) ?_
    refine ra_q 3 20 (v := pt (some ⟨b1, 0, none⟩) 0) rfl rfl rfl (by kernel_rfl) (by kernel_rfl) (by kernel_rfl) (ST.sel hS9 [1, 2] rfl rfl) (fun w' hw' => (Y_fieldAddr (B := some ⟨b1, 0, none⟩) (i := 0) (s := 3) k_fd_49_0_0_47 k_sz_47_4 rfl rfl)) ?_
    refine ra_q 4 21 (v := .agg #[vi y.Num.A, vi y.Num.B, vi y.Num.C, vi y.Num.D]) rfl rfl rfl (by kernel_rfl) (by kernel_rfl) (by kernel_rfl) (ST.sel hS9 [1, 2] rfl rfl) (fun w' hw' => (Y_loadA (B := some ⟨b1, 0, none⟩) (i := 0) (cs := [vi y.Num.A, vi y.Num.B, vi y.Num.C, vi y.Num.D, vi y.Exp]) (vs := [vi y.Num.A, vi y.Num.B, vi y.Num.C, vi y.Num.D]) k_ag_47 k_sz_47_4 rfl rfl (ST.cf hw' (i := 1) rfl) rfl rfl)) ?_
    refine ra_q 7 24 (v := pt (some ⟨b, 0, none⟩) 4) rfl rfl rfl (by kernel_rfl) (by kernel_rfl) (by kernel_rfl) (ST.sel hS9 [1, 2] rfl rfl) (fun w' hw' => (Y_fieldAddr (B := some ⟨b, 0, none⟩) (i := 0) (s := 0) k_fd_49_1_4_3 k_sz_3_1 rfl rfl)) ?_
    refine ra_q 8 25 (v := vi x.Exp) rfl rfl rfl (by kernel_rfl) (by kernel_rfl) (by kernel_rfl) (ST.sel hS9 [1, 2] rfl rfl) (fun w' hw' => (Y_load1 (B := some ⟨b, 0, none⟩) (i := 4) (cs := [vi x.Num.A, vi x.Num.B, vi x.Num.C, vi x.Num.D, vi x.Exp]) (v := vi x.Exp) k_sc_3 rfl rfl (ST.cf hw' (i := 0) rfl) rfl)) ?_
    refine ra_q 9 26 (v := pt (some ⟨b1, 0, none⟩) 4) rfl rfl rfl (by kernel_rfl) (by kernel_rfl) (by kernel_rfl) (ST.sel hS9 [1, 2] rfl rfl) (fun w' hw' => (Y_fieldAddr (B := some ⟨b1, 0, none⟩) (i := 0) (s := 0) k_fd_49_1_4_3 k_sz_3_1 rfl rfl)) ?_
    refine ra_q 10 27 (v := vi y.Exp) rfl rfl rfl (by kernel_rfl) (by kernel_rfl) (by kernel_rfl) (ST.sel hS9 [1, 2] rfl rfl) (fun w' hw' => (Y_load1 (B := some ⟨b1, 0, none⟩) (i := 4) (cs := [vi y.Num.A, vi y.Num.B, vi y.Num.C, vi y.Num.D, vi y.Exp]) (v := vi y.Exp) k_sc_3 rfl rfl (ST.cf hw' (i := 1) rfl) rfl)) ?_
    refine ra_q 11 28 (v := vi (i64.wrap (x.Exp + y.Exp))) rfl rfl rfl (by kernel_rfl) (by kernel_rfl) (by kernel_rfl) (ST.sel hS9 [1, 2] rfl rfl) (fun w' hw' => (Y_add (k := .i64) (a := x.Exp) (b := y.Exp) rfl rfl rfl)) ?_
    refine ra_all (rs := [5]) (by kernel_rfl) rfl ?_
    refine ra_c 22 (i := 5) rfl rfl rfl (Yc_func (g := 56) (vs := [.agg #[vi x.Num.A, vi x.Num.B, vi x.Num.C, vi x.Num.D], .agg #[vi y.Num.A, vi y.Num.B, vi y.Num.C, vi y.Num.D]]) k_call_56 rfl (mc rfl (mc rfl mn)) (c_spec_l1Mul x.Num y.Num _  (hS9.inn0 [] rfl) hc)) ?_ ?_
    · rintro _ w_5 ⟨rfl, hd⟩
      have hS10 := hS9.out00 hd
      have hS10 : ST w0 (bl [⟨B, 59, [.bool c.bad], 1⟩]) _ [⟨B, 59, [.bool c.bad], 1⟩, ⟨some ⟨b, 0, none⟩, 49, [vi x.Num.A, vi x.Num.B, vi x.Num.C, vi x.Num.D, vi x.Exp], 5⟩, ⟨some ⟨b1, 0, none⟩, 49, [vi y.Num.A, vi y.Num.B, vi y.Num.C, vi y.Num.D, vi y.Exp], 5⟩, ⟨some ⟨b2, 0, none⟩, 49, [vi 0, vi 0, vi 0, vi 0, vi 0], 5⟩] [] := hS10
      refine ⟨(ST.sel hS10 [1, 2] rfl rfl), ?_⟩
      refine ra_all (rs := [6]) (by kernel_rfl) rfl ?_
      refine ra_c 23 (i := 6) rfl rfl rfl (Yc_func (g := 52) (vs := [pt B 0, .agg #[vi r_1.A, vi r_1.B, vi r_1.C, vi r_1.D]]) k_call_52 rfl (mc rfl (mc rfl mn)) (c_spec_l2C_ring c r_1 B _  (hS10.inn [true, false, false, false] rfl [] rfl) hc1)) ?_ ?_
      · rintro _ w_6 ⟨rfl, hd1⟩
        have hS11 := hS10.out [true, false, false, false] rfl hd1
        have hS11 : ST w0 (bl [⟨B, 59, [.bool c.bad], 1⟩]) _ [⟨some ⟨b, 0, none⟩, 49, [vi x.Num.A, vi x.Num.B, vi x.Num.C, vi x.Num.D, vi x.Exp], 5⟩, ⟨some ⟨b1, 0, none⟩, 49, [vi y.Num.A, vi y.Num.B, vi y.Num.C, vi y.Num.D, vi y.Exp], 5⟩, ⟨some ⟨b2, 0, none⟩, 49, [vi 0, vi 0, vi 0, vi 0, vi 0], 5⟩, ⟨B, 59, [.bool m1.bad], 1⟩] [] := hS11
        refine ⟨(ST.sel hS11 [0, 1] rfl rfl), ?_⟩
        refine ra_all (rs := [12]) (by kernel_rfl) rfl ?_
        refine ra_c 29 (i := 12) rfl rfl rfl (Yc_func (g := 54) (vs := [.agg #[vi r_2.A, vi r_2.B, vi r_2.C, vi r_2.D], vi (i64.wrap (x.Exp + y.Exp))]) k_call_54 rfl (mc rfl (mc rfl mn)) (c_spec_l2Low r_2 (i64.wrap (x.Exp + y.Exp)) _  (hS11.inn0 [] rfl) hc2)) ?_ ?_
        · rintro _ w_7 ⟨rfl, hd2⟩
          have hS12 := hS11.out00 hd2
          have hS12 : ST w0 (bl [⟨B, 59, [.bool c.bad], 1⟩]) _ [⟨some ⟨b, 0, none⟩, 49, [vi x.Num.A, vi x.Num.B, vi x.Num.C, vi x.Num.D, vi x.Exp], 5⟩, ⟨some ⟨b1, 0, none⟩, 49, [vi y.Num.A, vi y.Num.B, vi y.Num.C, vi y.Num.D, vi y.Exp], 5⟩, ⟨some ⟨b2, 0, none⟩, 49, [vi 0, vi 0, vi 0, vi 0, vi 0], 5⟩, ⟨B, 59, [.bool m1.bad], 1⟩] [] := hS12
          refine ⟨(ST.sel hS12 [0, 1] rfl rfl), ?_⟩
          refine ra_all (rs := [13]) (by kernel_rfl) rfl ?_
          refine ra_s0 (i := 13) rfl rfl rfl (Ys_store (i := 2) (s := 5) (B := some ⟨b2, 0, none⟩) (T' := 49) (v := .agg #[vi r_3.Num.A, vi r_3.Num.B, vi r_3.Num.C, vi r_3.Num.D, vi r_3.Exp]) (vs := [vi r_3.Num.A, vi r_3.Num.B, vi r_3.Num.C, vi r_3.Num.D, vi r_3.Exp]) (k := 0) (cs' := [vi r_3.Num.A, vi r_3.Num.B, vi r_3.Num.C, vi r_3.Num.D, vi r_3.Exp]) hS12 k_sz_49_5 rfl rfl rfl rfl rfl rfl rfl (Nat.le_of_ble_eq_true rfl) rfl rfl) ?_ ?_
          · rintro _ w_8 ⟨rfl, hS13⟩
            have hS13 : ST w0 (bl [⟨B, 59, [.bool c.bad], 1⟩]) _ [⟨some ⟨b, 0, none⟩, 49, [vi x.Num.A, vi x.Num.B, vi x.Num.C, vi x.Num.D, vi x.Exp], 5⟩, ⟨some ⟨b1, 0, none⟩, 49, [vi y.Num.A, vi y.Num.B, vi y.Num.C, vi y.Num.D, vi y.Exp], 5⟩, ⟨some ⟨b2, 0, none⟩, 49, [vi r_3.Num.A, vi r_3.Num.B, vi r_3.Num.C, vi r_3.Num.D, vi r_3.Exp], 5⟩, ⟨B, 59, [.bool m1.bad], 1⟩] [] := hS13
            refine ⟨(ST.sel hS13 [0, 1] rfl rfl), ?_⟩
            refine ra_done (by kernel_rfl) ?_
            refine cw_ret ?_
            obtain ⟨rfl, rfl⟩ := pr2 (some_inj hF2)
            exact ret1 Tryd.results33 (v1 := .agg #[vi r_3.Num.A, vi r_3.Num.B, vi r_3.Num.C, vi r_3.Num.D, vi r_3.Exp]) (resAt_cellA (B := some ⟨b2, 0, none⟩) (i := 0) (cs := [vi r_3.Num.A, vi r_3.Num.B, vi r_3.Num.C, vi r_3.Num.D, vi r_3.Exp]) (vs := [vi r_3.Num.A, vi r_3.Num.B, vi r_3.Num.C, vi r_3.Num.D, vi r_3.Exp]) rfl k_ag_49 k_sz_49_5 (hS13.cf (i := 2) rfl) rfl rfl) ⟨rfl, (ST.subR (R' := []) (hS13.sel [3] rfl rfl) (fun _ h => by cases h))⟩
          exact allR_nil
        exact allR_nil
      exact allR_nil
    exact allR_nil

theorem c_spec_l2C_times (c : Tl2C) (a : TMatrix) (b : TMatrix) (B : Option Addr) (B1 : Option Addr) (c1 n : Nat) (B2 : Option Addr) (c2 n1 : Nat) (w0 : World) (hn : a.Cells.length = n) (hn1 : b.Cells.length = n1) (hS : ST w0 (bl [⟨B, 59, [.bool c.bad], 1⟩]) w0 [⟨B, 59, [.bool c.bad], 1⟩] [⟨B1, (a.Cells.flatMap enc_Dyadic)⟩, ⟨B2, (b.Cells.flatMap enc_Dyadic)⟩]) {r_ : TMatrix} {m : Tl2C} (hF : F_spec_l2C_times c a b = some (r_, m)) :
    CV Tryd.prog 29 #[pt B 0, .agg #[vi a.Rows, vi a.Cols, .slice B1 n c1], .agg #[vi b.Rows, vi b.Cols, .slice B2 n1 c2]] w0 (fun v w' => ∃ (B3 : Option Addr) (c3 : Nat), v = .agg #[vi r_.Rows, vi r_.Cols, .slice B3 r_.Cells.length c3] ∧ ST w0 (bl [⟨B, 59, [.bool c.bad], 1⟩]) w' [⟨B, 59, [.bool m.bad], 1⟩, ⟨B3, 49, (r_.Cells.flatMap enc_Dyadic), c3 * 5⟩] []) := by
  subst hn
  subst hn1
  unfold F_spec_l2C_times at hF
  refine cv_of_cw 75 Tryd.func29 rfl Tryd.ntmps29 rfl ?_
  refine cw_seq ?_
  refine cw_region ?_
  refine ss 4 rfl rfl (Ys_box (T := 32) (v := .agg #[vi a.Rows, vi a.Cols, .slice B1 a.Cells.length c1]) (cs := [vi a.Rows, vi a.Cols, .slice B1 a.Cells.length c1]) (m := 3) hS rfl rfl rfl rfl) ?_
  rintro _ w_ ⟨b1, rfl, hS1⟩
  have hS1 : ST w0 (bl [⟨B, 59, [.bool c.bad], 1⟩]) _ [⟨B, 59, [.bool c.bad], 1⟩, ⟨some ⟨b1, 0, none⟩, 32, [vi a.Rows, vi a.Cols, .slice B1 a.Cells.length c1], 3⟩] [⟨B1, (a.Cells.flatMap enc_Dyadic)⟩, ⟨B2, (b.Cells.flatMap enc_Dyadic)⟩] := hS1
  refine ss 5 rfl rfl (Ys_box (T := 32) (v := .agg #[vi b.Rows, vi b.Cols, .slice B2 b.Cells.length c2]) (cs := [vi b.Rows, vi b.Cols, .slice B2 b.Cells.length c2]) (m := 3) hS1 rfl rfl rfl rfl) ?_
  rintro _ w_1 ⟨b2, rfl, hS2⟩
  have hS2 : ST w0 (bl [⟨B, 59, [.bool c.bad], 1⟩]) _ [⟨B, 59, [.bool c.bad], 1⟩, ⟨some ⟨b1, 0, none⟩, 32, [vi a.Rows, vi a.Cols, .slice B1 a.Cells.length c1], 3⟩, ⟨some ⟨b2, 0, none⟩, 32, [vi b.Rows, vi b.Cols, .slice B2 b.Cells.length c2], 3⟩] [⟨B1, (a.Cells.flatMap enc_Dyadic)⟩, ⟨B2, (b.Cells.flatMap enc_Dyadic)⟩] := hS2
  refine ss 6 rfl rfl (Ys_alloc (T := 32) (cs := [vi 0, vi 0, .slice none 0 0]) (m := 3) hS2 k_zero_32 rfl rfl rfl) ?_
  rintro _ w_2 ⟨b3, rfl, hS3⟩
  have hS3 : ST w0 (bl [⟨B, 59, [.bool c.bad], 1⟩]) _ [⟨B, 59, [.bool c.bad], 1⟩, ⟨some ⟨b1, 0, none⟩, 32, [vi a.Rows, vi a.Cols, .slice B1 a.Cells.length c1], 3⟩, ⟨some ⟨b2, 0, none⟩, 32, [vi b.Rows, vi b.Cols, .slice B2 b.Cells.length c2], 3⟩, ⟨some ⟨b3, 0, none⟩, 32, [vi 0, vi 0, .slice none 0 0], 3⟩] [⟨B1, (a.Cells.flatMap enc_Dyadic)⟩, ⟨B2, (b.Cells.flatMap enc_Dyadic)⟩] := hS3
  refine rw_nil ?_
  refine cw_seq ?_
  refine cw_region ?_
  refine sq 12 rfl rfl (Y_fieldAddr (B := some ⟨b1, 0, none⟩) (i := 0) (s := 0) k_fd_32_0_0_3 k_sz_3_1 rfl rfl) ?_
  refine sq 13 rfl rfl (Y_load1 (B := some ⟨b1, 0, none⟩) (i := 0) (cs := [vi a.Rows, vi a.Cols, .slice B1 a.Cells.length c1]) (v := vi a.Rows) k_sc_3 rfl rfl (hS3.cf (i := 1) rfl) rfl) ?_
  refine sq 14 rfl rfl (Y_fieldAddr (B := some ⟨b2, 0, none⟩) (i := 0) (s := 0) k_fd_32_1_1_3 k_sz_3_1 rfl rfl) ?_
  refine sq 15 rfl rfl (Y_load1 (B := some ⟨b2, 0, none⟩) (i := 1) (cs := [vi b.Rows, vi b.Cols, .slice B2 b.Cells.length c2]) (v := vi b.Cols) k_sc_3 rfl rfl (hS3.cf (i := 2) rfl) rfl) ?_
  refine sq 16 rfl rfl (Y_buildS (zs := [vi 0, vi 0, .slice none 0 0]) (vs := [(0, vi a.Rows), (1, vi b.Cols)]) (cs := [vi a.Rows, vi b.Cols, .slice none 0 0]) k_pl_32 k_zero_32 rfl (mpc rfl (mpc rfl mpn)) rfl) ?_
  refine ss 7 rfl rfl (Ys_alloc (T := 32) (cs := [vi 0, vi 0, .slice none 0 0]) (m := 3) hS3 k_zero_32 rfl rfl rfl) ?_
  rintro _ w_3 ⟨b4, rfl, hS4⟩
  have hS4 : ST w0 (bl [⟨B, 59, [.bool c.bad], 1⟩]) _ [⟨B, 59, [.bool c.bad], 1⟩, ⟨some ⟨b1, 0, none⟩, 32, [vi a.Rows, vi a.Cols, .slice B1 a.Cells.length c1], 3⟩, ⟨some ⟨b2, 0, none⟩, 32, [vi b.Rows, vi b.Cols, .slice B2 b.Cells.length c2], 3⟩, ⟨some ⟨b3, 0, none⟩, 32, [vi 0, vi 0, .slice none 0 0], 3⟩, ⟨some ⟨b4, 0, none⟩, 32, [vi 0, vi 0, .slice none 0 0], 3⟩] [⟨B1, (a.Cells.flatMap enc_Dyadic)⟩, ⟨B2, (b.Cells.flatMap enc_Dyadic)⟩] := hS4
  refine ss0 rfl rfl (Ys_store (i := 4) (s := 3) (B := some ⟨b4, 0, none⟩) (T' := 32) (v := .agg #[vi a.Rows, vi b.Cols, .slice none 0 0]) (vs := [vi a.Rows, vi b.Cols, .slice none 0 0]) (k := 0) (cs' := [vi a.Rows, vi b.Cols, .slice none 0 0]) hS4 k_sz_32_3 rfl rfl rfl rfl rfl rfl rfl (Nat.le_of_ble_eq_true rfl) rfl rfl) ?_
  rintro _ w_4 ⟨rfl, hS5⟩
  have hS5 : ST w0 (bl [⟨B, 59, [.bool c.bad], 1⟩]) _ [⟨B, 59, [.bool c.bad], 1⟩, ⟨some ⟨b1, 0, none⟩, 32, [vi a.Rows, vi a.Cols, .slice B1 a.Cells.length c1], 3⟩, ⟨some ⟨b2, 0, none⟩, 32, [vi b.Rows, vi b.Cols, .slice B2 b.Cells.length c2], 3⟩, ⟨some ⟨b3, 0, none⟩, 32, [vi 0, vi 0, .slice none 0 0], 3⟩, ⟨some ⟨b4, 0, none⟩, 32, [vi a.Rows, vi b.Cols, .slice none 0 0], 3⟩] [⟨B1, (a.Cells.flatMap enc_Dyadic)⟩, ⟨B2, (b.Cells.flatMap enc_Dyadic)⟩] := hS5
  refine rw_nil ?_
  refine cw_seq ?_
  refine cw_seq ?_
  refine cw_region ?_
  refine sq 8 rfl rfl (Y_assign (v := vi 0) rfl rfl) ?_
  refine rw_nil ?_
  obtain ⟨hN, hF⟩ := chk_inv hF
  obtain ⟨z, hz, hF1⟩ := bind_inv hF
  have hS7 := hS5.addNil 49
  refine cw_block ?_
  refine cw_loop (fun k f w => ∃ (i1 : Nat) (bad : Bool) (Cells : List TDyadic) (B4 : Option Addr) (c4 : Nat), FF f [(0, pt B 0), (4, pt (some ⟨b1, 0, none⟩) 0), (5, pt (some ⟨b2, 0, none⟩) 0), (6, pt (some ⟨b3, 0, none⟩) 0), (7, pt (some ⟨b4, 0, none⟩) 0), (8, vi (i1 : Int))] ∧ ST w0 (bl [⟨B, 59, [.bool c.bad], 1⟩]) w [⟨B, 59, [.bool bad], 1⟩, ⟨some ⟨b1, 0, none⟩, 32, [vi a.Rows, vi a.Cols, .slice B1 a.Cells.length c1], 3⟩, ⟨some ⟨b2, 0, none⟩, 32, [vi b.Rows, vi b.Cols, .slice B2 b.Cells.length c2], 3⟩, ⟨some ⟨b3, 0, none⟩, 32, [vi 0, vi 0, .slice none 0 0], 3⟩, ⟨some ⟨b4, 0, none⟩, 32, [vi a.Rows, vi b.Cols, .slice B4 Cells.length c4], 3⟩, ⟨B4, 49, (Cells.flatMap enc_Dyadic), c4 * 5⟩] [⟨B1, (a.Cells.flatMap enc_Dyadic)⟩, ⟨B2, (b.Cells.flatMap enc_Dyadic)⟩] ∧ i1 + k = a.Rows.toNat ∧ forN (F_spec_l2C_times_l1 b a) k i1 (bad, Cells) = some z) a.Rows.toNat ⟨0, c.bad, [], none, 0, (FF.cons rfl (FF.cons rfl (FF.cons rfl (FF.cons rfl (FF.cons rfl (FF.cons rfl FF.nil)))))), (hS7.sel [0, 1, 2, 3, 4, 5] rfl rfl), Nat.zero_add _, hz⟩ ?_
  rintro k_ f w ⟨i1, bad, Cells, B4, c4, hf, hS6, hik, hL⟩
  refine cw_seq ?_
  refine cw_seq ?_
  refine cw_region ?_
  refine sq 17 rfl rfl (Y_move (v := vi (i1 : Int)) rfl (hf.get 8 5 rfl)) ?_
  refine sq 18 rfl rfl (Y_fieldAddr (B := some ⟨b1, 0, none⟩) (i := 0) (s := 0) k_fd_32_0_0_3 k_sz_3_1 rfl (hf.get 4 1 rfl)) ?_
  refine sq 19 rfl rfl (Y_load1 (B := some ⟨b1, 0, none⟩) (i := 0) (cs := [vi a.Rows, vi a.Cols, .slice B1 a.Cells.length c1]) (v := vi a.Rows) k_sc_3 rfl rfl (hS6.cf (i := 1) rfl) rfl) ?_
  refine sq 20 rfl rfl (Y_lt (k := .i64) (a := (i1 : Int)) (b := a.Rows) rfl rfl rfl) ?_
  refine rw_nil ?_
  refine cw_cond (b := (decide ((i1 : Int) < a.Rows))) rfl (fun hlt => ?_) (fun hlt => ?_)
  · skip
    have hlt1 : i1 < a.Rows.toNat := by have h := of_decide_eq_true hlt; omega
    obtain ⟨k_1, rfl⟩ : ∃ k2, k_ = k2 + 1 := ⟨k_ - 1, by omega⟩
    obtain ⟨y, hb, hL1⟩ := forN_go hL
    unfold F_spec_l2C_times_l1 at hb
    refine cw_skip ?_
    refine cw_seq ?_
    refine cw_block ?_
    refine cw_seq ?_
    refine cw_region ?_
    refine sq 9 rfl rfl (Y_assign (v := vi 0) rfl rfl) ?_
    refine rw_nil ?_
    obtain ⟨hN1, hb⟩ := chk_inv hb
    obtain ⟨z1, hz1, hF2⟩ := bind_inv hb
    refine cw_block ?_
    refine cw_loop (fun k f w => ∃ (j : Nat) (bad1 : Bool) (Cells1 : List TDyadic) (B5 : Option Addr) (c5 : Nat), FF f [(0, pt B 0), (4, pt (some ⟨b1, 0, none⟩) 0), (5, pt (some ⟨b2, 0, none⟩) 0), (6, pt (some ⟨b3, 0, none⟩) 0), (7, pt (some ⟨b4, 0, none⟩) 0), (8, vi (i1 : Int)), (9, vi (j : Int))] ∧ ST w0 (bl [⟨B, 59, [.bool c.bad], 1⟩]) w [⟨B, 59, [.bool bad1], 1⟩, ⟨some ⟨b1, 0, none⟩, 32, [vi a.Rows, vi a.Cols, .slice B1 a.Cells.length c1], 3⟩, ⟨some ⟨b2, 0, none⟩, 32, [vi b.Rows, vi b.Cols, .slice B2 b.Cells.length c2], 3⟩, ⟨some ⟨b3, 0, none⟩, 32, [vi 0, vi 0, .slice none 0 0], 3⟩, ⟨some ⟨b4, 0, none⟩, 32, [vi a.Rows, vi b.Cols, .slice B5 Cells1.length c5], 3⟩, ⟨B5, 49, (Cells1.flatMap enc_Dyadic), c5 * 5⟩] [⟨B1, (a.Cells.flatMap enc_Dyadic)⟩, ⟨B2, (b.Cells.flatMap enc_Dyadic)⟩] ∧ j + k = b.Cols.toNat ∧ forN (F_spec_l2C_times_l2 a Cells i1 b bad) k j (bad1, Cells1) = some z1) b.Cols.toNat ⟨0, bad, Cells, B4, c4, (FF.cons (hf.get 0 0 rfl) (FF.cons (hf.get 4 1 rfl) (FF.cons (hf.get 5 2 rfl) (FF.cons (hf.get 6 3 rfl) (FF.cons (hf.get 7 4 rfl) (FF.cons (hf.get 8 5 rfl) (FF.cons rfl FF.nil))))))), (hS6.sel [0, 1, 2, 3, 4, 5] rfl rfl), Nat.zero_add _, hz1⟩ ?_
    rintro k_2 f w ⟨j, bad1, Cells1, B5, c5, hf1, hS8, hik1, hL2⟩
    refine cw_seq ?_
    refine cw_seq ?_
    refine cw_region ?_
    refine sq 23 rfl rfl (Y_move (v := vi (j : Int)) rfl (hf1.get 9 6 rfl)) ?_
    refine sq 24 rfl rfl (Y_fieldAddr (B := some ⟨b2, 0, none⟩) (i := 0) (s := 0) k_fd_32_1_1_3 k_sz_3_1 rfl (hf1.get 5 2 rfl)) ?_
    refine sq 25 rfl rfl (Y_load1 (B := some ⟨b2, 0, none⟩) (i := 1) (cs := [vi b.Rows, vi b.Cols, .slice B2 b.Cells.length c2]) (v := vi b.Cols) k_sc_3 rfl rfl (hS8.cf (i := 2) rfl) rfl) ?_
    refine sq 26 rfl rfl (Y_lt (k := .i64) (a := (j : Int)) (b := b.Cols) rfl rfl rfl) ?_
    refine rw_nil ?_
    refine cw_cond (b := (decide ((j : Int) < b.Cols))) rfl (fun hlt2 => ?_) (fun hlt2 => ?_)
    · skip
      have hlt3 : j < b.Cols.toNat := by have h := of_decide_eq_true hlt2; omega
      obtain ⟨k_3, rfl⟩ : ∃ k2, k_2 = k2 + 1 := ⟨k_2 - 1, by omega⟩
      obtain ⟨y1, hb1, hL3⟩ := forN_go hL2
      unfold F_spec_l2C_times_l2 at hb1
      refine cw_skip ?_
      refine cw_seq ?_
      refine cw_block ?_
      refine cw_seq ?_
      refine cw_region ?_
      refine sq 29 rfl rfl (Y_buildS (zs := [vi 0, vi 0, vi 0, vi 0, vi 0]) (vs := []) (cs := [vi 0, vi 0, vi 0, vi 0, vi 0]) k_pl_49 k_zero_49 rfl mpn rfl) ?_
      refine ss 10 rfl rfl (Ys_alloc (T := 49) (cs := [vi 0, vi 0, vi 0, vi 0, vi 0]) (m := 5) hS8 k_zero_49 rfl rfl rfl) ?_
      rintro _ w_5 ⟨b5, rfl, hS9⟩
      have hS9 : ST w0 (bl [⟨B, 59, [.bool c.bad], 1⟩]) _ [⟨B, 59, [.bool bad1], 1⟩, ⟨some ⟨b1, 0, none⟩, 32, [vi a.Rows, vi a.Cols, .slice B1 a.Cells.length c1], 3⟩, ⟨some ⟨b2, 0, none⟩, 32, [vi b.Rows, vi b.Cols, .slice B2 b.Cells.length c2], 3⟩, ⟨some ⟨b3, 0, none⟩, 32, [vi 0, vi 0, .slice none 0 0], 3⟩, ⟨some ⟨b4, 0, none⟩, 32, [vi a.Rows, vi b.Cols, .slice B5 Cells1.length c5], 3⟩, ⟨B5, 49, (Cells1.flatMap enc_Dyadic), c5 * 5⟩, ⟨some ⟨b5, 0, none⟩, 49, [vi 0, vi 0, vi 0, vi 0, vi 0], 5⟩] [⟨B1, (a.Cells.flatMap enc_Dyadic)⟩, ⟨B2, (b.Cells.flatMap enc_Dyadic)⟩] := hS9
      refine ss0 rfl rfl (Ys_store (i := 6) (s := 5) (B := some ⟨b5, 0, none⟩) (T' := 49) (v := .agg #[vi 0, vi 0, vi 0, vi 0, vi 0]) (vs := [vi 0, vi 0, vi 0, vi 0, vi 0]) (k := 0) (cs' := [vi 0, vi 0, vi 0, vi 0, vi 0]) hS9 k_sz_49_5 rfl rfl rfl rfl rfl rfl rfl (Nat.le_of_ble_eq_true rfl) rfl rfl) ?_
      rintro _ w_6 ⟨rfl, hS10⟩
      have hS10 : ST w0 (bl [⟨B, 59, [.bool c.bad], 1⟩]) _ [⟨B, 59, [.bool bad1], 1⟩, ⟨some ⟨b1, 0, none⟩, 32, [vi a.Rows, vi a.Cols, .slice B1 a.Cells.length c1], 3⟩, ⟨some ⟨b2, 0, none⟩, 32, [vi b.Rows, vi b.Cols, .slice B2 b.Cells.length c2], 3⟩, ⟨some ⟨b3, 0, none⟩, 32, [vi 0, vi 0, .slice none 0 0], 3⟩, ⟨some ⟨b4, 0, none⟩, 32, [vi a.Rows, vi b.Cols, .slice B5 Cells1.length c5], 3⟩, ⟨B5, 49, (Cells1.flatMap enc_Dyadic), c5 * 5⟩, ⟨some ⟨b5, 0, none⟩, 49, [vi 0, vi 0, vi 0, vi 0, vi 0], 5⟩] [⟨B1, (a.Cells.flatMap enc_Dyadic)⟩, ⟨B2, (b.Cells.flatMap enc_Dyadic)⟩] := hS10
      refine rw_nil ?_
      refine cw_seq ?_
      refine cw_seq ?_
      refine cw_region ?_
      refine sq 11 rfl rfl (Y_assign (v := vi 0) rfl rfl) ?_
      refine rw_nil ?_
      obtain ⟨z2, hz2, hF3⟩ := bind_inv hb1
      refine cw_block ?_
      refine cw_loop (fun k f w => ∃ (bad2 : Bool) (A : Int) (B6 : Int) (C : Int) (D : Int) (Exp : Int) (k_4 : Int), FF f [(0, pt B 0), (4, pt (some ⟨b1, 0, none⟩) 0), (5, pt (some ⟨b2, 0, none⟩) 0), (6, pt (some ⟨b3, 0, none⟩) 0), (7, pt (some ⟨b4, 0, none⟩) 0), (8, vi (i1 : Int)), (9, vi (j : Int)), (10, pt (some ⟨b5, 0, none⟩) 0), (11, vi k_4)] ∧ ST w0 (bl [⟨B, 59, [.bool c.bad], 1⟩]) w [⟨B, 59, [.bool bad2], 1⟩, ⟨some ⟨b1, 0, none⟩, 32, [vi a.Rows, vi a.Cols, .slice B1 a.Cells.length c1], 3⟩, ⟨some ⟨b2, 0, none⟩, 32, [vi b.Rows, vi b.Cols, .slice B2 b.Cells.length c2], 3⟩, ⟨some ⟨b3, 0, none⟩, 32, [vi 0, vi 0, .slice none 0 0], 3⟩, ⟨some ⟨b4, 0, none⟩, 32, [vi a.Rows, vi b.Cols, .slice B5 Cells1.length c5], 3⟩, ⟨B5, 49, (Cells1.flatMap enc_Dyadic), c5 * 5⟩, ⟨some ⟨b5, 0, none⟩, 49, [vi A, vi B6, vi C, vi D, vi Exp], 5⟩] [⟨B1, (a.Cells.flatMap enc_Dyadic)⟩, ⟨B2, (b.Cells.flatMap enc_Dyadic)⟩] ∧ whX (F_spec_l2C_times_l3 a Cells i1 b j bad) k (bad2, A, B6, C, D, Exp, k_4) = some z2) fuel ⟨bad1, 0, 0, 0, 0, 0, 0, (FF.cons (hf1.get 0 0 rfl) (FF.cons (hf1.get 4 1 rfl) (FF.cons (hf1.get 5 2 rfl) (FF.cons (hf1.get 6 3 rfl) (FF.cons (hf1.get 7 4 rfl) (FF.cons (hf1.get 8 5 rfl) (FF.cons (hf1.get 9 6 rfl) (FF.cons rfl (FF.cons rfl FF.nil))))))))), (hS10.sel [0, 1, 2, 3, 4, 5, 6] rfl rfl), hz2⟩ ?_
      rintro k_5 f w ⟨bad2, A, B6, C, D, Exp, k_4, hf2, hS11, hL4⟩
      obtain ⟨k_6, y2, rfl, hb2, hL5⟩ := whX_go hL4
      unfold F_spec_l2C_times_l3 at hb2
      refine cw_seq ?_
      refine cw_seq ?_
      refine cw_region ?_
      refine sq 30 rfl rfl (Y_move (v := vi k_4) rfl (hf2.get 11 8 rfl)) ?_
      refine sq 31 rfl rfl (Y_fieldAddr (B := some ⟨b1, 0, none⟩) (i := 0) (s := 0) k_fd_32_1_1_3 k_sz_3_1 rfl (hf2.get 4 1 rfl)) ?_
      refine sq 32 rfl rfl (Y_load1 (B := some ⟨b1, 0, none⟩) (i := 1) (cs := [vi a.Rows, vi a.Cols, .slice B1 a.Cells.length c1]) (v := vi a.Cols) k_sc_3 rfl rfl (hS11.cf (i := 1) rfl) rfl) ?_
      refine sq 33 rfl rfl (Y_lt (k := .i64) (a := k_4) (b := a.Cols) rfl rfl rfl) ?_
      refine sq 34 rfl rfl (Y_move (v := .bool (decide (k_4 < a.Cols))) rfl rfl) ?_
      refine sgq 35 (B := (decide (k_4 < a.Cols))) (v := pt B 0) rfl rfl (wt_t (gd_of (t := 34) (by kernel_rfl) rfl)) (fun hg => (Y_move (v := pt B 0) rfl (hf2.get 0 0 rfl))) ?_
      refine sgq 36 (B := (decide (k_4 < a.Cols))) (v := pt B 0) rfl rfl (wt_t (gd_of (t := 34) (by kernel_rfl) rfl)) (fun hg1 => (Y_nilCheck (B := B) (i := 0) rfl (gv_of (B := (decide (k_4 < a.Cols))) (v := pt B 0) hg1))) ?_
      refine sgq 37 (B := (decide (k_4 < a.Cols))) (v := pt B 0) rfl rfl (wt_t (gd_of (t := 34) (by kernel_rfl) rfl)) (fun hg2 => (Y_fieldAddr (B := B) (i := 0) (s := 0) k_fd_59_0_0_4 k_sz_4_1 rfl (gv_of (B := (decide (k_4 < a.Cols))) (v := pt B 0) hg2))) ?_
      refine sgq 38 (B := (decide (k_4 < a.Cols))) (v := .bool bad2) rfl rfl (wt_t (gd_of (t := 34) (by kernel_rfl) rfl)) (fun hg3 => (Y_load1 (B := B) (i := 0) (cs := [.bool bad2]) (v := .bool bad2) k_sc_4 rfl (gv_of (B := (decide (k_4 < a.Cols))) (v := pt B 0) hg3) (hS11.cf (i := 0) rfl) rfl)) ?_
      refine sgq 39 (B := (decide (k_4 < a.Cols))) (v := .bool (!bad2)) rfl rfl (wt_t (gd_of (t := 34) (by kernel_rfl) rfl)) (fun hg4 => (Y_not (p := bad2) rfl (gv_of (B := (decide (k_4 < a.Cols))) (v := .bool bad2) hg4))) ?_
      refine sq 40 rfl rfl (Y_and (b := (decide (k_4 < a.Cols))) (z := (!bad2)) rfl rfl rfl rfl) ?_
      refine rw_nil ?_
      refine cw_cond (b := ((decide (k_4 < a.Cols)) && (!bad2))) rfl (fun hb3 => ?_) (fun hb3 => ?_)
      · skip
        have hF4 := ct hb2 hb3
        refine cw_skip ?_
        refine cw_seq ?_
        refine cw_block ?_
        obtain ⟨x, hx, hF4⟩ := bind_inv hF4
        obtain ⟨x1, hx1, hF4⟩ := bind_inv hF4
        obtain ⟨⟨r_1, m1⟩, hc, hF4⟩ := bind_inv hF4
        obtain ⟨⟨r_2, m2⟩, hc1, hF4⟩ := bind_inv hF4
        refine cw_mid (fun f w => FF f [(0, pt B 0), (4, pt (some ⟨b1, 0, none⟩) 0), (5, pt (some ⟨b2, 0, none⟩) 0), (6, pt (some ⟨b3, 0, none⟩) 0), (7, pt (some ⟨b4, 0, none⟩) 0), (8, vi (i1 : Int)), (9, vi (j : Int)), (10, pt (some ⟨b5, 0, none⟩) 0), (11, vi k_4)] ∧ ST w0 (bl [⟨B, 59, [.bool c.bad], 1⟩]) w [⟨B, 59, [.bool m2.bad], 1⟩, ⟨some ⟨b1, 0, none⟩, 32, [vi a.Rows, vi a.Cols, .slice B1 a.Cells.length c1], 3⟩, ⟨some ⟨b2, 0, none⟩, 32, [vi b.Rows, vi b.Cols, .slice B2 b.Cells.length c2], 3⟩, ⟨some ⟨b3, 0, none⟩, 32, [vi 0, vi 0, .slice none 0 0], 3⟩, ⟨some ⟨b4, 0, none⟩, 32, [vi a.Rows, vi b.Cols, .slice B5 Cells1.length c5], 3⟩, ⟨B5, 49, (Cells1.flatMap enc_Dyadic), c5 * 5⟩, ⟨some ⟨b5, 0, none⟩, 49, [vi r_2.Num.A, vi r_2.Num.B, vi r_2.Num.C, vi r_2.Num.D, vi r_2.Exp], 5⟩] [⟨B1, (a.Cells.flatMap enc_Dyadic)⟩, ⟨B2, (b.Cells.flatMap enc_Dyadic)⟩]) ?_ ?_
        · skip
          refine ra_start (ST.sel hS11 [1, 2, 3, 4, 5] rfl rfl).fn (by kernel_rfl) ?_
          have hS15 := hS11.drew
          refine ra_q 0 43 (v := pt B 0) rfl rfl rfl (by kernel_rfl) (by kernel_rfl) (by kernel_rfl) (ST.sel hS15 [1, 2, 3, 4, 5] rfl rfl) (fun w' hw' => (Y_move (v := pt B 0) rfl (hf2.get 0 0 rfl))) ?_
          refine ra_q 2 45 (v := pt B 0) rfl rfl rfl (by kernel_rfl) (by kernel_rfl) (by kernel_rfl) (ST.sel hS15 [1, 2, 3, 4, 5] rfl rfl) (fun w' hw' => (Y_move (v := pt B 0) rfl (hf2.get 0 0 rfl))) ?_
          refine ra_q 3 46 (v := pt (some ⟨b1, 0, none⟩) 2) rfl rfl rfl (by kernel_rfl) (by kernel_rfl) (by kernel_rfl) (ST.sel hS15 [1, 2, 3, 4, 5] rfl rfl) (fun w' hw' => (Y_fieldAddr (B := some ⟨b1, 0, none⟩) (i := 0) (s := 0) k_fd_32_2_2_26 k_sz_26_1 rfl (hf2.get 4 1 rfl))) ?_
          refine ra_q 4 47 (v := .slice B1 a.Cells.length c1) rfl rfl rfl (by kernel_rfl) (by kernel_rfl) (by kernel_rfl) (ST.sel hS15 [1, 2, 3, 4, 5] rfl rfl) (fun w' hw' => (Y_load1 (B := some ⟨b1, 0, none⟩) (i := 2) (cs := [vi a.Rows, vi a.Cols, .slice B1 a.Cells.length c1]) (v := .slice B1 a.Cells.length c1) k_sc_26 rfl rfl (ST.cf hw' (i := 0) rfl) rfl)) ?_
          refine ra_q 5 48 (v := vi (i1 : Int)) rfl rfl rfl (by kernel_rfl) (by kernel_rfl) (by kernel_rfl) (ST.sel hS15 [1, 2, 3, 4, 5] rfl rfl) (fun w' hw' => (Y_move (v := vi (i1 : Int)) rfl (hf2.get 8 5 rfl))) ?_
          refine ra_q 6 49 (v := pt (some ⟨b1, 0, none⟩) 1) rfl rfl rfl (by kernel_rfl) (by kernel_rfl) (by kernel_rfl) (ST.sel hS15 [1, 2, 3, 4, 5] rfl rfl) (fun w' hw' => (Y_fieldAddr (B := some ⟨b1, 0, none⟩) (i := 0) (s := 0) k_fd_32_1_1_3 k_sz_3_1 rfl (hf2.get 4 1 rfl))) ?_
          refine ra_q 7 50 (v := vi a.Cols) rfl rfl rfl (by kernel_rfl) (by kernel_rfl) (by kernel_rfl) (ST.sel hS15 [1, 2, 3, 4, 5] rfl rfl) (fun w' hw' => (Y_load1 (B := some ⟨b1, 0, none⟩) (i := 1) (cs := [vi a.Rows, vi a.Cols, .slice B1 a.Cells.length c1]) (v := vi a.Cols) k_sc_3 rfl rfl (ST.cf hw' (i := 0) rfl) rfl)) ?_
          refine ra_q 8 51 (v := vi (i64.wrap ((i1 : Int) * a.Cols))) rfl rfl rfl (by kernel_rfl) (by kernel_rfl) (by kernel_rfl) (ST.sel hS15 [1, 2, 3, 4, 5] rfl rfl) (fun w' hw' => (Y_mul (k := .i64) (a := (i1 : Int)) (b := a.Cols) rfl rfl rfl)) ?_
          refine ra_q 9 52 (v := vi k_4) rfl rfl rfl (by kernel_rfl) (by kernel_rfl) (by kernel_rfl) (ST.sel hS15 [1, 2, 3, 4, 5] rfl rfl) (fun w' hw' => (Y_move (v := vi k_4) rfl (hf2.get 11 8 rfl))) ?_
          refine ra_q 10 53 (v := vi (i64.wrap ((i64.wrap ((i1 : Int) * a.Cols)) + k_4))) rfl rfl rfl (by kernel_rfl) (by kernel_rfl) (by kernel_rfl) (ST.sel hS15 [1, 2, 3, 4, 5] rfl rfl) (fun w' hw' => (Y_add (k := .i64) (a := (i64.wrap ((i1 : Int) * a.Cols))) (b := k_4) rfl rfl rfl)) ?_
          refine ra_q 11 54 (v := pt B1 ((i64.wrap ((i64.wrap ((i1 : Int) * a.Cols)) + k_4)).toNat * 5)) rfl rfl rfl (by kernel_rfl) (by kernel_rfl) (by kernel_rfl) (ST.sel hS15 [1, 2, 3, 4, 5] rfl rfl) (fun w' hw' => (Y_index (B := B1) (m := a.Cells.length) (c := c1) (k := .i64) (i := (i64.wrap ((i64.wrap ((i1 : Int) * a.Cols)) + k_4))) k_sl_26_49 k_sz_49_5 rfl rfl rfl (gi_isSome enc_Dyadic_len rfl (ST.rf hw' (i := 0) rfl) hx) (getI_nn hx) (getI_ltI hx rfl))) ?_
          refine ra_q 12 55 (v := .agg #[vi x.Num.A, vi x.Num.B, vi x.Num.C, vi x.Num.D, vi x.Exp]) rfl rfl rfl (by kernel_rfl) (by kernel_rfl) (by kernel_rfl) (ST.sel hS15 [1, 2, 3, 4, 5] rfl rfl) (fun w' hw' => (Y_loadA (B := B1) (i := (i64.wrap ((i64.wrap ((i1 : Int) * a.Cols)) + k_4)).toNat * 5) (cs := (a.Cells.flatMap enc_Dyadic)) (vs := [vi x.Num.A, vi x.Num.B, vi x.Num.C, vi x.Num.D, vi x.Exp]) k_ag_49 k_sz_49_5 rfl rfl (ST.rf hw' (i := 0) rfl) (enc_Dyadic_len x) (gi_seg enc_Dyadic_len hx))) ?_
          refine ra_q 13 56 (v := pt (some ⟨b2, 0, none⟩) 2) rfl rfl rfl (by kernel_rfl) (by kernel_rfl) (by kernel_rfl) (ST.sel hS15 [1, 2, 3, 4, 5] rfl rfl) (fun w' hw' => (Y_fieldAddr (B := some ⟨b2, 0, none⟩) (i := 0) (s := 0) k_fd_32_2_2_26 k_sz_26_1 rfl (hf2.get 5 2 rfl))) ?_
          refine ra_q 14 57 (v := .slice B2 b.Cells.length c2) rfl rfl rfl (by kernel_rfl) (by kernel_rfl) (by kernel_rfl) (ST.sel hS15 [1, 2, 3, 4, 5] rfl rfl) (fun w' hw' => (Y_load1 (B := some ⟨b2, 0, none⟩) (i := 2) (cs := [vi b.Rows, vi b.Cols, .slice B2 b.Cells.length c2]) (v := .slice B2 b.Cells.length c2) k_sc_26 rfl rfl (ST.cf hw' (i := 1) rfl) rfl)) ?_
          refine ra_q 15 58 (v := vi k_4) rfl rfl rfl (by kernel_rfl) (by kernel_rfl) (by kernel_rfl) (ST.sel hS15 [1, 2, 3, 4, 5] rfl rfl) (fun w' hw' => (Y_move (v := vi k_4) rfl (hf2.get 11 8 rfl))) ?_
          refine ra_q 16 59 (v := pt (some ⟨b2, 0, none⟩) 1) rfl rfl rfl (by kernel_rfl) (by kernel_rfl) (by kernel_rfl) (ST.sel hS15 [1, 2, 3, 4, 5] rfl rfl) (fun w' hw' => (Y_fieldAddr (B := some ⟨b2, 0, none⟩) (i := 0) (s := 0) k_fd_32_1_1_3 k_sz_3_1 rfl (hf2.get 5 2 rfl))) ?_
          refine ra_q 17 60 (v := vi b.Cols) rfl rfl rfl (by kernel_rfl) (by kernel_rfl) (by kernel_rfl) (ST.sel hS15 [1, 2, 3, 4, 5] rfl rfl) (fun w' hw' => (Y_load1 (B := some ⟨b2, 0, none⟩) (i := 1) (cs := [vi b.Rows, vi b.Cols, .slice B2 b.Cells.length c2]) (v := vi b.Cols) k_sc_3 rfl rfl (ST.cf hw' (i := 1) rfl) rfl)) ?_
          refine ra_q 18 61 (v := vi (i64.wrap (k_4 * b.Cols))) rfl rfl rfl (by kernel_rfl) (by kernel_rfl) (by kernel_rfl) (ST.sel hS15 [1, 2, 3, 4, 5] rfl rfl) (fun w' hw' => (Y_mul (k := .i64) (a := k_4) (b := b.Cols) rfl rfl rfl)) ?_
          refine ra_q 19 62 (v := vi (j : Int)) rfl rfl rfl (by kernel_rfl) (by kernel_rfl) (by kernel_rfl) (ST.sel hS15 [1, 2, 3, 4, 5] rfl rfl) (fun w' hw' => (Y_move (v := vi (j : Int)) rfl (hf2.get 9 6 rfl))) ?_
          refine ra_q 20 63 (v := vi (i64.wrap ((i64.wrap (k_4 * b.Cols)) + (j : Int)))) rfl rfl rfl (by kernel_rfl) (by kernel_rfl) (by kernel_rfl) (ST.sel hS15 [1, 2, 3, 4, 5] rfl rfl) (fun w' hw' => (Y_add (k := .i64) (a := (i64.wrap (k_4 * b.Cols))) (b := (j : Int)) rfl rfl rfl)) ?_
          refine ra_q 21 64 (v := pt B2 ((i64.wrap ((i64.wrap (k_4 * b.Cols)) + (j : Int))).toNat * 5)) rfl rfl rfl (by kernel_rfl) (by kernel_rfl) (by kernel_rfl) (ST.sel hS15 [1, 2, 3, 4, 5] rfl rfl) (fun w' hw' => (Y_index (B := B2) (m := b.Cells.length) (c := c2) (k := .i64) (i := (i64.wrap ((i64.wrap (k_4 * b.Cols)) + (j : Int)))) k_sl_26_49 k_sz_49_5 rfl rfl rfl (gi_isSome enc_Dyadic_len rfl (ST.rf hw' (i := 1) rfl) hx1) (getI_nn hx1) (getI_ltI hx1 rfl))) ?_
          refine ra_q 22 65 (v := .agg #[vi x1.Num.A, vi x1.Num.B, vi x1.Num.C, vi x1.Num.D, vi x1.Exp]) rfl rfl rfl (by kernel_rfl) (by kernel_rfl) (by kernel_rfl) (ST.sel hS15 [1, 2, 3, 4, 5] rfl rfl) (fun w' hw' => (Y_loadA (B := B2) (i := (i64.wrap ((i64.wrap (k_4 * b.Cols)) + (j : Int))).toNat * 5) (cs := (b.Cells.flatMap enc_Dyadic)) (vs := [vi x1.Num.A, vi x1.Num.B, vi x1.Num.C, vi x1.Num.D, vi x1.Exp]) k_ag_49 k_sz_49_5 rfl rfl (ST.rf hw' (i := 1) rfl) (enc_Dyadic_len x1) (gi_seg enc_Dyadic_len hx1))) ?_
          refine ra_all (rs := [1, 23]) (by kernel_rfl) rfl ?_
          refine ra_y 44 (i := 1) (v := .agg #[vi A, vi B6, vi C, vi D, vi Exp]) rfl rfl rfl (Y_loadA (B := some ⟨b5, 0, none⟩) (i := 0) (cs := [vi A, vi B6, vi C, vi D, vi Exp]) (vs := [vi A, vi B6, vi C, vi D, vi Exp]) k_ag_49 k_sz_49_5 rfl (hf2.get 10 7 rfl) (hS15.cf (i := 6) rfl) rfl rfl) (ST.sel hS15 [1, 2, 3, 4, 5] rfl rfl) ?_ ?_
          · skip
            refine ra_all (rs := [23]) (by kernel_rfl) rfl ?_
            refine ra_c 66 (i := 23) rfl rfl rfl (Yc_func (g := 33) (vs := [pt B 0, .agg #[vi x.Num.A, vi x.Num.B, vi x.Num.C, vi x.Num.D, vi x.Exp], .agg #[vi x1.Num.A, vi x1.Num.B, vi x1.Num.C, vi x1.Num.D, vi x1.Exp]]) k_call_33 rfl (mc rfl (mc rfl (mc rfl mn))) (c_spec_l2C_mul (Tl2C.mk bad2) x x1 B _  (hS15.inn [true, false, false, false, false, false, false] rfl [] rfl) hc)) ?_ ?_
            · rintro _ w_7 ⟨rfl, hd⟩
              have hS16 := hS15.out [true, false, false, false, false, false, false] rfl hd
              have hS16 : ST w0 (bl [⟨B, 59, [.bool c.bad], 1⟩]) _ [⟨some ⟨b1, 0, none⟩, 32, [vi a.Rows, vi a.Cols, .slice B1 a.Cells.length c1], 3⟩, ⟨some ⟨b2, 0, none⟩, 32, [vi b.Rows, vi b.Cols, .slice B2 b.Cells.length c2], 3⟩, ⟨some ⟨b3, 0, none⟩, 32, [vi 0, vi 0, .slice none 0 0], 3⟩, ⟨some ⟨b4, 0, none⟩, 32, [vi a.Rows, vi b.Cols, .slice B5 Cells1.length c5], 3⟩, ⟨B5, 49, (Cells1.flatMap enc_Dyadic), c5 * 5⟩, ⟨some ⟨b5, 0, none⟩, 49, [vi A, vi B6, vi C, vi D, vi Exp], 5⟩, ⟨B, 59, [.bool m1.bad], 1⟩] [⟨B1, (a.Cells.flatMap enc_Dyadic)⟩, ⟨B2, (b.Cells.flatMap enc_Dyadic)⟩] := hS16
              refine ⟨(ST.sel hS16 [0, 1, 2, 3, 4] rfl rfl), ?_⟩
              refine ra_all (rs := [24]) (by kernel_rfl) rfl ?_
              refine ra_c 67 (i := 24) rfl rfl rfl (Yc_func (g := 32) (vs := [pt B 0, .agg #[vi A, vi B6, vi C, vi D, vi Exp], .agg #[vi r_1.Num.A, vi r_1.Num.B, vi r_1.Num.C, vi r_1.Num.D, vi r_1.Exp]]) k_call_32 rfl (mc rfl (mc rfl (mc rfl mn))) (c_spec_l2C_add m1 (TDyadic.mk (TRing.mk A B6 C D) Exp) r_1 B _  (hS16.inn [false, false, false, false, false, false, true] rfl [] rfl) hc1)) ?_ ?_
              · rintro _ w_8 ⟨rfl, hd1⟩
                have hS17 := hS16.out [false, false, false, false, false, false, true] rfl hd1
                have hS17 : ST w0 (bl [⟨B, 59, [.bool c.bad], 1⟩]) _ [⟨some ⟨b1, 0, none⟩, 32, [vi a.Rows, vi a.Cols, .slice B1 a.Cells.length c1], 3⟩, ⟨some ⟨b2, 0, none⟩, 32, [vi b.Rows, vi b.Cols, .slice B2 b.Cells.length c2], 3⟩, ⟨some ⟨b3, 0, none⟩, 32, [vi 0, vi 0, .slice none 0 0], 3⟩, ⟨some ⟨b4, 0, none⟩, 32, [vi a.Rows, vi b.Cols, .slice B5 Cells1.length c5], 3⟩, ⟨B5, 49, (Cells1.flatMap enc_Dyadic), c5 * 5⟩, ⟨some ⟨b5, 0, none⟩, 49, [vi A, vi B6, vi C, vi D, vi Exp], 5⟩, ⟨B, 59, [.bool m2.bad], 1⟩] [⟨B1, (a.Cells.flatMap enc_Dyadic)⟩, ⟨B2, (b.Cells.flatMap enc_Dyadic)⟩] := hS17
                refine ⟨(ST.sel hS17 [0, 1, 2, 3, 4] rfl rfl), ?_⟩
                refine ra_all (rs := [25]) (by kernel_rfl) rfl ?_
                refine ra_s0 (i := 25) rfl rfl rfl (Ys_store (i := 5) (s := 5) (B := some ⟨b5, 0, none⟩) (T' := 49) (v := .agg #[vi r_2.Num.A, vi r_2.Num.B, vi r_2.Num.C, vi r_2.Num.D, vi r_2.Exp]) (vs := [vi r_2.Num.A, vi r_2.Num.B, vi r_2.Num.C, vi r_2.Num.D, vi r_2.Exp]) (k := 0) (cs' := [vi r_2.Num.A, vi r_2.Num.B, vi r_2.Num.C, vi r_2.Num.D, vi r_2.Exp]) hS17 k_sz_49_5 rfl (hf2.get 10 7 rfl) rfl rfl rfl rfl rfl (Nat.le_of_ble_eq_true rfl) rfl rfl) ?_ ?_
                · rintro _ w_9 ⟨rfl, hS18⟩
                  have hS18 : ST w0 (bl [⟨B, 59, [.bool c.bad], 1⟩]) _ [⟨some ⟨b1, 0, none⟩, 32, [vi a.Rows, vi a.Cols, .slice B1 a.Cells.length c1], 3⟩, ⟨some ⟨b2, 0, none⟩, 32, [vi b.Rows, vi b.Cols, .slice B2 b.Cells.length c2], 3⟩, ⟨some ⟨b3, 0, none⟩, 32, [vi 0, vi 0, .slice none 0 0], 3⟩, ⟨some ⟨b4, 0, none⟩, 32, [vi a.Rows, vi b.Cols, .slice B5 Cells1.length c5], 3⟩, ⟨B5, 49, (Cells1.flatMap enc_Dyadic), c5 * 5⟩, ⟨some ⟨b5, 0, none⟩, 49, [vi r_2.Num.A, vi r_2.Num.B, vi r_2.Num.C, vi r_2.Num.D, vi r_2.Exp], 5⟩, ⟨B, 59, [.bool m2.bad], 1⟩] [⟨B1, (a.Cells.flatMap enc_Dyadic)⟩, ⟨B2, (b.Cells.flatMap enc_Dyadic)⟩] := hS18
                  refine ⟨(ST.sel hS18 [0, 1, 2, 3, 4] rfl rfl), ?_⟩
                  refine ra_done (by kernel_rfl) ?_
                  exact ⟨(FF.cons (hf2.get 0 0 rfl) (FF.cons (hf2.get 4 1 rfl) (FF.cons (hf2.get 5 2 rfl) (FF.cons (hf2.get 6 3 rfl) (FF.cons (hf2.get 7 4 rfl) (FF.cons (hf2.get 8 5 rfl) (FF.cons (hf2.get 9 6 rfl) (FF.cons (hf2.get 10 7 rfl) (FF.cons (hf2.get 11 8 rfl) FF.nil))))))))), (hS18.sel [6, 0, 1, 2, 3, 4, 5] rfl rfl)⟩
                exact allR_nil
              exact allR_nil
            exact allR_nil
          refine ra_c 66 (i := 23) rfl rfl rfl (Yc_func (g := 33) (vs := [pt B 0, .agg #[vi x.Num.A, vi x.Num.B, vi x.Num.C, vi x.Num.D, vi x.Exp], .agg #[vi x1.Num.A, vi x1.Num.B, vi x1.Num.C, vi x1.Num.D, vi x1.Exp]]) k_call_33 rfl (mc rfl (mc rfl (mc rfl mn))) (c_spec_l2C_mul (Tl2C.mk bad2) x x1 B _  (hS15.inn [true, false, false, false, false, false, false] rfl [] rfl) hc)) ?_ ?_
          · rintro _ w_10 ⟨rfl, hd2⟩
            have hS19 := hS15.out [true, false, false, false, false, false, false] rfl hd2
            have hS19 : ST w0 (bl [⟨B, 59, [.bool c.bad], 1⟩]) _ [⟨some ⟨b1, 0, none⟩, 32, [vi a.Rows, vi a.Cols, .slice B1 a.Cells.length c1], 3⟩, ⟨some ⟨b2, 0, none⟩, 32, [vi b.Rows, vi b.Cols, .slice B2 b.Cells.length c2], 3⟩, ⟨some ⟨b3, 0, none⟩, 32, [vi 0, vi 0, .slice none 0 0], 3⟩, ⟨some ⟨b4, 0, none⟩, 32, [vi a.Rows, vi b.Cols, .slice B5 Cells1.length c5], 3⟩, ⟨B5, 49, (Cells1.flatMap enc_Dyadic), c5 * 5⟩, ⟨some ⟨b5, 0, none⟩, 49, [vi A, vi B6, vi C, vi D, vi Exp], 5⟩, ⟨B, 59, [.bool m1.bad], 1⟩] [⟨B1, (a.Cells.flatMap enc_Dyadic)⟩, ⟨B2, (b.Cells.flatMap enc_Dyadic)⟩] := hS19
            refine ⟨(ST.sel hS19 [0, 1, 2, 3, 4] rfl rfl), ?_⟩
            refine ra_all (rs := [1]) (by kernel_rfl) rfl ?_
            refine ra_y 44 (i := 1) (v := .agg #[vi A, vi B6, vi C, vi D, vi Exp]) rfl rfl rfl (Y_loadA (B := some ⟨b5, 0, none⟩) (i := 0) (cs := [vi A, vi B6, vi C, vi D, vi Exp]) (vs := [vi A, vi B6, vi C, vi D, vi Exp]) k_ag_49 k_sz_49_5 rfl (hf2.get 10 7 rfl) (hS19.cf (i := 5) rfl) rfl rfl) (ST.sel hS19 [0, 1, 2, 3, 4] rfl rfl) ?_ ?_
            · skip
              refine ra_all (rs := [24]) (by kernel_rfl) rfl ?_
              refine ra_c 67 (i := 24) rfl rfl rfl (Yc_func (g := 32) (vs := [pt B 0, .agg #[vi A, vi B6, vi C, vi D, vi Exp], .agg #[vi r_1.Num.A, vi r_1.Num.B, vi r_1.Num.C, vi r_1.Num.D, vi r_1.Exp]]) k_call_32 rfl (mc rfl (mc rfl (mc rfl mn))) (c_spec_l2C_add m1 (TDyadic.mk (TRing.mk A B6 C D) Exp) r_1 B _  (hS19.inn [false, false, false, false, false, false, true] rfl [] rfl) hc1)) ?_ ?_
              · rintro _ w_11 ⟨rfl, hd3⟩
                have hS20 := hS19.out [false, false, false, false, false, false, true] rfl hd3
                have hS20 : ST w0 (bl [⟨B, 59, [.bool c.bad], 1⟩]) _ [⟨some ⟨b1, 0, none⟩, 32, [vi a.Rows, vi a.Cols, .slice B1 a.Cells.length c1], 3⟩, ⟨some ⟨b2, 0, none⟩, 32, [vi b.Rows, vi b.Cols, .slice B2 b.Cells.length c2], 3⟩, ⟨some ⟨b3, 0, none⟩, 32, [vi 0, vi 0, .slice none 0 0], 3⟩, ⟨some ⟨b4, 0, none⟩, 32, [vi a.Rows, vi b.Cols, .slice B5 Cells1.length c5], 3⟩, ⟨B5, 49, (Cells1.flatMap enc_Dyadic), c5 * 5⟩, ⟨some ⟨b5, 0, none⟩, 49, [vi A, vi B6, vi C, vi D, vi Exp], 5⟩, ⟨B, 59, [.bool m2.bad], 1⟩] [⟨B1, (a.Cells.flatMap enc_Dyadic)⟩, ⟨B2, (b.Cells.flatMap enc_Dyadic)⟩] := hS20
                refine ⟨(ST.sel hS20 [0, 1, 2, 3, 4] rfl rfl), ?_⟩
                refine ra_all (rs := [25]) (by kernel_rfl) rfl ?_
                refine ra_s0 (i := 25) rfl rfl rfl (Ys_store (i := 5) (s := 5) (B := some ⟨b5, 0, none⟩) (T' := 49) (v := .agg #[vi r_2.Num.A, vi r_2.Num.B, vi r_2.Num.C, vi r_2.Num.D, vi r_2.Exp]) (vs := [vi r_2.Num.A, vi r_2.Num.B, vi r_2.Num.C, vi r_2.Num.D, vi r_2.Exp]) (k := 0) (cs' := [vi r_2.Num.A, vi r_2.Num.B, vi r_2.Num.C, vi r_2.Num.D, vi r_2.Exp]) hS20 k_sz_49_5 rfl (hf2.get 10 7 rfl) rfl rfl rfl rfl rfl (Nat.le_of_ble_eq_true rfl) rfl rfl) ?_ ?_
                · rintro _ w_12 ⟨rfl, hS21⟩
                  have hS21 : ST w0 (bl [⟨B, 59, [.bool c.bad], 1⟩]) _ [⟨some ⟨b1, 0, none⟩, 32, [vi a.Rows, vi a.Cols, .slice B1 a.Cells.length c1], 3⟩, ⟨some ⟨b2, 0, none⟩, 32, [vi b.Rows, vi b.Cols, .slice B2 b.Cells.length c2], 3⟩, ⟨some ⟨b3, 0, none⟩, 32, [vi 0, vi 0, .slice none 0 0], 3⟩, ⟨some ⟨b4, 0, none⟩, 32, [vi a.Rows, vi b.Cols, .slice B5 Cells1.length c5], 3⟩, ⟨B5, 49, (Cells1.flatMap enc_Dyadic), c5 * 5⟩, ⟨some ⟨b5, 0, none⟩, 49, [vi r_2.Num.A, vi r_2.Num.B, vi r_2.Num.C, vi r_2.Num.D, vi r_2.Exp], 5⟩, ⟨B, 59, [.bool m2.bad], 1⟩] [⟨B1, (a.Cells.flatMap enc_Dyadic)⟩, ⟨B2, (b.Cells.flatMap enc_Dyadic)⟩] := hS21
                  refine ⟨(ST.sel hS21 [0, 1, 2, 3, 4] rfl rfl), ?_⟩
                  refine ra_done (by kernel_rfl) ?_
                  exact ⟨(FF.cons (hf2.get 0 0 rfl) (FF.cons (hf2.get 4 1 rfl) (FF.cons (hf2.get 5 2 rfl) (FF.cons (hf2.get 6 3 rfl) (FF.cons (hf2.get 7 4 rfl) (FF.cons (hf2.get 8 5 rfl) (FF.cons (hf2.get 9 6 rfl) (FF.cons (hf2.get 10 7 rfl) (FF.cons (hf2.get 11 8 rfl) FF.nil))))))))), (hS21.sel [6, 0, 1, 2, 3, 4, 5] rfl rfl)⟩
                exact allR_nil
              exact allR_nil
            exact allR_nil
          exact allR_nil
        rintro f w ⟨hf3, hS14⟩
        refine cw_region ?_
        refine sq 41 rfl rfl (Y_move (v := vi k_4) rfl (hf3.get 11 8 rfl)) ?_
        refine sq 42 rfl rfl (Y_add (k := .i64) (a := k_4) (b := 1) rfl rfl rfl) ?_
        refine sq 11 rfl rfl (Y_assign (v := vi (i64.wrap (k_4 + 1))) rfl rfl) ?_
        refine rw_nil ?_
        obtain rfl := some_inj hF4
        exact ⟨k_6, Nat.lt_succ_self _, m2.bad, r_2.Num.A, r_2.Num.B, r_2.Num.C, r_2.Num.D, r_2.Exp, (i64.wrap (k_4 + 1)), (FF.cons (hf3.get 0 0 rfl) (FF.cons (hf3.get 4 1 rfl) (FF.cons (hf3.get 5 2 rfl) (FF.cons (hf3.get 6 3 rfl) (FF.cons (hf3.get 7 4 rfl) (FF.cons (hf3.get 8 5 rfl) (FF.cons (hf3.get 9 6 rfl) (FF.cons (hf3.get 10 7 rfl) (FF.cons rfl FF.nil))))))))), (hS14.sel [0, 1, 2, 3, 4, 5, 6] rfl rfl), hL5⟩
      · skip
        have hF5 := cf' hb2 hb3
        refine cw_exit rfl ?_
        obtain rfl := some_inj hF5
        obtain rfl := some_inj hL5
        refine cw_region ?_
        refine sq 68 rfl rfl (Y_fieldAddr (B := some ⟨b4, 0, none⟩) (i := 0) (s := 0) k_fd_32_2_2_26 k_sz_26_1 rfl (hf2.get 7 4 rfl)) ?_
        refine sq 69 rfl rfl (Y_load1 (B := some ⟨b4, 0, none⟩) (i := 2) (cs := [vi a.Rows, vi b.Cols, .slice B5 Cells1.length c5]) (v := .slice B5 Cells1.length c5) k_sc_26 rfl rfl (hS11.cf (i := 4) rfl) rfl) ?_
        refine sq 70 rfl rfl (Y_loadA (B := some ⟨b5, 0, none⟩) (i := 0) (cs := [vi A, vi B6, vi C, vi D, vi Exp]) (vs := [vi A, vi B6, vi C, vi D, vi Exp]) k_ag_49 k_sz_49_5 rfl (hf2.get 10 7 rfl) (hS11.cf (i := 6) rfl) rfl rfl) ?_
        refine ss 71 rfl rfl (Ys_bslice (s := 5) (len := 1) (vs := [(0, .agg #[vi A, vi B6, vi C, vi D, vi Exp])]) (cs := [vi A, vi B6, vi C, vi D, vi Exp]) (zs := [vi 0, vi 0, vi 0, vi 0, vi 0]) (m := 5) hS11 k_sl_26_49 k_sz_49_5 k_zc_49 rfl (mpc rfl mpn) rfl rfl rfl (by kernel_rfl) (by kernel_rfl) rfl) ?_
        rintro _ w_13 ⟨b6, rfl, hS22⟩
        have hS22 : ST w0 (bl [⟨B, 59, [.bool c.bad], 1⟩]) _ [⟨B, 59, [.bool bad2], 1⟩, ⟨some ⟨b1, 0, none⟩, 32, [vi a.Rows, vi a.Cols, .slice B1 a.Cells.length c1], 3⟩, ⟨some ⟨b2, 0, none⟩, 32, [vi b.Rows, vi b.Cols, .slice B2 b.Cells.length c2], 3⟩, ⟨some ⟨b3, 0, none⟩, 32, [vi 0, vi 0, .slice none 0 0], 3⟩, ⟨some ⟨b4, 0, none⟩, 32, [vi a.Rows, vi b.Cols, .slice B5 Cells1.length c5], 3⟩, ⟨B5, 49, (Cells1.flatMap enc_Dyadic), c5 * 5⟩, ⟨some ⟨b5, 0, none⟩, 49, [vi A, vi B6, vi C, vi D, vi Exp], 5⟩, ⟨some ⟨b6, 0, none⟩, 49, ([(TDyadic.mk (TRing.mk A B6 C D) Exp)].flatMap enc_Dyadic), 1 * 5⟩] [⟨B1, (a.Cells.flatMap enc_Dyadic)⟩, ⟨B2, (b.Cells.flatMap enc_Dyadic)⟩] := hS22
        obtain ⟨hap, hF3⟩ := chk_inv hF3
        refine ss 72 rfl rfl (Ys_append (s := 5) (by' := 40) (i := 5) (nn := Cells1.length) (c := c5) (k := 1) (len := (Cells1 ++ [(TDyadic.mk (TRing.mk A B6 C D) Exp)]).length) (B := B5) (xs := ([(TDyadic.mk (TRing.mk A B6 C D) Exp)].flatMap enc_Dyadic)) (cs' := ((Cells1 ++ [(TDyadic.mk (TRing.mk A B6 C D) Exp)]).flatMap enc_Dyadic)) hS22 k_sl_26_49 k_sz_49_5 k_by_49_40 k_zero_49 rfl (by decide) rfl rfl rfl rfl (fm_lenn (l := Cells1) enc_Dyadic_len rfl) rfl (hS22.cf (i := 7) rfl) (fm_lenn (l := [(TDyadic.mk (TRing.mk A B6 C D) Exp)]) enc_Dyadic_len rfl) (fm_one' (enc := enc_Dyadic) enc_Dyadic_one [(TDyadic.mk (TRing.mk A B6 C D) Exp)]) (by have := hap; omega) (by have := hap; simp only [maxLen]; omega) (fm_app _ _) (app_len (l := Cells1) (l' := [(TDyadic.mk (TRing.mk A B6 C D) Exp)]) rfl rfl)) ?_
        rintro _ w_14 ⟨B7, c6, rfl, hS23⟩
        have hS23 : ST w0 (bl [⟨B, 59, [.bool c.bad], 1⟩]) _ [⟨B, 59, [.bool bad2], 1⟩, ⟨some ⟨b1, 0, none⟩, 32, [vi a.Rows, vi a.Cols, .slice B1 a.Cells.length c1], 3⟩, ⟨some ⟨b2, 0, none⟩, 32, [vi b.Rows, vi b.Cols, .slice B2 b.Cells.length c2], 3⟩, ⟨some ⟨b3, 0, none⟩, 32, [vi 0, vi 0, .slice none 0 0], 3⟩, ⟨some ⟨b4, 0, none⟩, 32, [vi a.Rows, vi b.Cols, .slice B5 Cells1.length c5], 3⟩, ⟨B7, 49, ((Cells1 ++ [(TDyadic.mk (TRing.mk A B6 C D) Exp)]).flatMap enc_Dyadic), c6 * 5⟩, ⟨some ⟨b5, 0, none⟩, 49, [vi A, vi B6, vi C, vi D, vi Exp], 5⟩, ⟨some ⟨b6, 0, none⟩, 49, ([(TDyadic.mk (TRing.mk A B6 C D) Exp)].flatMap enc_Dyadic), 1 * 5⟩] [⟨B1, (a.Cells.flatMap enc_Dyadic)⟩, ⟨B2, (b.Cells.flatMap enc_Dyadic)⟩] := hS23
        refine sq 73 rfl rfl (Y_fieldAddr (B := some ⟨b4, 0, none⟩) (i := 0) (s := 0) k_fd_32_2_2_26 k_sz_26_1 rfl (hf2.get 7 4 rfl)) ?_
        refine ss0 rfl rfl (Ys_store (i := 4) (s := 1) (B := some ⟨b4, 0, none⟩) (T' := 32) (v := .slice B7 ((Cells1 ++ [(TDyadic.mk (TRing.mk A B6 C D) Exp)]).length) c6) (vs := [.slice B7 ((Cells1 ++ [(TDyadic.mk (TRing.mk A B6 C D) Exp)]).length) c6]) (k := 2) (cs' := [vi a.Rows, vi b.Cols, .slice B7 ((Cells1 ++ [(TDyadic.mk (TRing.mk A B6 C D) Exp)]).length) c6]) hS23 k_sz_26_1 rfl rfl rfl rfl rfl rfl rfl (Nat.le_of_ble_eq_true rfl) rfl rfl) ?_
        rintro _ w_15 ⟨rfl, hS24⟩
        have hS24 : ST w0 (bl [⟨B, 59, [.bool c.bad], 1⟩]) _ [⟨B, 59, [.bool bad2], 1⟩, ⟨some ⟨b1, 0, none⟩, 32, [vi a.Rows, vi a.Cols, .slice B1 a.Cells.length c1], 3⟩, ⟨some ⟨b2, 0, none⟩, 32, [vi b.Rows, vi b.Cols, .slice B2 b.Cells.length c2], 3⟩, ⟨some ⟨b3, 0, none⟩, 32, [vi 0, vi 0, .slice none 0 0], 3⟩, ⟨some ⟨b4, 0, none⟩, 32, [vi a.Rows, vi b.Cols, .slice B7 ((Cells1 ++ [(TDyadic.mk (TRing.mk A B6 C D) Exp)]).length) c6], 3⟩, ⟨B7, 49, ((Cells1 ++ [(TDyadic.mk (TRing.mk A B6 C D) Exp)]).flatMap enc_Dyadic), c6 * 5⟩, ⟨some ⟨b5, 0, none⟩, 49, [vi A, vi B6, vi C, vi D, vi Exp], 5⟩, ⟨some ⟨b6, 0, none⟩, 49, ([(TDyadic.mk (TRing.mk A B6 C D) Exp)].flatMap enc_Dyadic), 1 * 5⟩] [⟨B1, (a.Cells.flatMap enc_Dyadic)⟩, ⟨B2, (b.Cells.flatMap enc_Dyadic)⟩] := hS24
        refine rw_nil ?_
        refine cw_region ?_
        refine sq 27 rfl rfl (Y_move (v := vi (j : Int)) rfl (hf2.get 9 6 rfl)) ?_
        refine sq 28 rfl rfl (Y_add (k := .i64) (a := (j : Int)) (b := 1) rfl rfl rfl) ?_
        refine sq 9 rfl rfl (Y_assign (v := vi (i64.wrap ((j : Int) + 1))) rfl rfl) ?_
        refine rw_nil ?_
        obtain rfl := some_inj hF3
        exact ⟨k_3, Nat.lt_succ_self _, j + 1, bad2, (Cells1 ++ [(TDyadic.mk (TRing.mk A B6 C D) Exp)]), B7, c6, (FF.cons (hf2.get 0 0 rfl) (FF.cons (hf2.get 4 1 rfl) (FF.cons (hf2.get 5 2 rfl) (FF.cons (hf2.get 6 3 rfl) (FF.cons (hf2.get 7 4 rfl) (FF.cons (hf2.get 8 5 rfl) (FF.cons (congrArg (Value.int .i64) (wr_succ hlt3 hN1)) FF.nil))))))), (hS24.sel [0, 1, 2, 3, 4, 5] rfl rfl), (by omega), hL3⟩
    · skip
      obtain rfl : k_2 = 0 := by have h := of_decide_eq_false hlt2; omega
      refine cw_exit rfl ?_
      obtain rfl := some_inj hL2
      refine cw_region ?_
      refine sq 21 rfl rfl (Y_move (v := vi (i1 : Int)) rfl (hf1.get 8 5 rfl)) ?_
      refine sq 22 rfl rfl (Y_add (k := .i64) (a := (i1 : Int)) (b := 1) rfl rfl rfl) ?_
      refine sq 8 rfl rfl (Y_assign (v := vi (i64.wrap ((i1 : Int) + 1))) rfl rfl) ?_
      refine rw_nil ?_
      obtain rfl := some_inj hF2
      exact ⟨k_1, Nat.lt_succ_self _, i1 + 1, bad1, Cells1, B5, c5, (FF.cons (hf1.get 0 0 rfl) (FF.cons (hf1.get 4 1 rfl) (FF.cons (hf1.get 5 2 rfl) (FF.cons (hf1.get 6 3 rfl) (FF.cons (hf1.get 7 4 rfl) (FF.cons (congrArg (Value.int .i64) (wr_succ hlt1 hN)) FF.nil)))))), (hS8.sel [0, 1, 2, 3, 4, 5] rfl rfl), (by omega), hL1⟩
  · skip
    obtain rfl : k_ = 0 := by have h := of_decide_eq_false hlt; omega
    refine cw_exit rfl ?_
    obtain rfl := some_inj hL
    refine cw_seq ?_
    refine cw_region ?_
    refine sq 74 rfl rfl (Y_loadA (B := some ⟨b4, 0, none⟩) (i := 0) (cs := [vi a.Rows, vi b.Cols, .slice B4 Cells.length c4]) (vs := [vi a.Rows, vi b.Cols, .slice B4 Cells.length c4]) k_ag_32 k_sz_32_3 rfl (hf.get 7 4 rfl) (hS6.cf (i := 4) rfl) rfl rfl) ?_
    refine ss0 rfl rfl (Ys_store (i := 3) (s := 3) (B := some ⟨b3, 0, none⟩) (T' := 32) (v := .agg #[vi a.Rows, vi b.Cols, .slice B4 Cells.length c4]) (vs := [vi a.Rows, vi b.Cols, .slice B4 Cells.length c4]) (k := 0) (cs' := [vi a.Rows, vi b.Cols, .slice B4 Cells.length c4]) hS6 k_sz_32_3 rfl (hf.get 6 3 rfl) rfl rfl rfl rfl rfl (Nat.le_of_ble_eq_true rfl) rfl rfl) ?_
    rintro _ w_16 ⟨rfl, hS25⟩
    have hS25 : ST w0 (bl [⟨B, 59, [.bool c.bad], 1⟩]) _ [⟨B, 59, [.bool bad], 1⟩, ⟨some ⟨b1, 0, none⟩, 32, [vi a.Rows, vi a.Cols, .slice B1 a.Cells.length c1], 3⟩, ⟨some ⟨b2, 0, none⟩, 32, [vi b.Rows, vi b.Cols, .slice B2 b.Cells.length c2], 3⟩, ⟨some ⟨b3, 0, none⟩, 32, [vi a.Rows, vi b.Cols, .slice B4 Cells.length c4], 3⟩, ⟨some ⟨b4, 0, none⟩, 32, [vi a.Rows, vi b.Cols, .slice B4 Cells.length c4], 3⟩, ⟨B4, 49, (Cells.flatMap enc_Dyadic), c4 * 5⟩] [⟨B1, (a.Cells.flatMap enc_Dyadic)⟩, ⟨B2, (b.Cells.flatMap enc_Dyadic)⟩] := hS25
    refine rw_nil ?_
    refine cw_ret ?_
    obtain ⟨rfl, rfl⟩ := pr2 (some_inj hF1)
    exact ret1 Tryd.results29 (v1 := .agg #[vi a.Rows, vi b.Cols, .slice B4 Cells.length c4]) (resAt_cellA (B := some ⟨b3, 0, none⟩) (i := 0) (cs := [vi a.Rows, vi b.Cols, .slice B4 Cells.length c4]) (vs := [vi a.Rows, vi b.Cols, .slice B4 Cells.length c4]) (hf.get 6 3 rfl) k_ag_32 k_sz_32_3 (hS25.cf (i := 3) rfl) rfl rfl) ⟨B4, c4, rfl, (ST.subR (R' := []) (hS25.sel [0, 5] rfl rfl) (fun _ h => by cases h))⟩

theorem c_spec_l1Conj (x : TRing)  (w0 : World)  (hS : ST w0 [] w0 [] []) {r_ : TRing} (hF : F_spec_l1Conj x = some r_) :
    CV Tryd.prog 83 #[.agg #[vi x.A, vi x.B, vi x.C, vi x.D]] w0 (fun v w' => v = .agg #[vi r_.A, vi r_.B, vi r_.C, vi r_.D] ∧ ST w0 [] w' [] []) := by
  unfold F_spec_l1Conj at hF
  refine cv_of_cw 15 Tryd.func83 rfl Tryd.ntmps83 rfl ?_
  refine cw_seq ?_
  refine cw_region ?_
  refine ss 1 rfl rfl (Ys_box (T := 47) (v := .agg #[vi x.A, vi x.B, vi x.C, vi x.D]) (cs := [vi x.A, vi x.B, vi x.C, vi x.D]) (m := 4) hS rfl rfl rfl rfl) ?_
  rintro _ w_ ⟨b, rfl, hS1⟩
  refine ss 2 rfl rfl (Ys_alloc (T := 47) (cs := [vi 0, vi 0, vi 0, vi 0]) (m := 4) hS1 k_zero_47 rfl rfl rfl) ?_
  rintro _ w_1 ⟨b1, rfl, hS2⟩
  have hS2 : ST w0 [] _ [⟨some ⟨b, 0, none⟩, 47, [vi x.A, vi x.B, vi x.C, vi x.D], 4⟩, ⟨some ⟨b1, 0, none⟩, 47, [vi 0, vi 0, vi 0, vi 0], 4⟩] [] := hS2
  refine rw_nil ?_
  refine cw_seq ?_
  refine cw_region ?_
  refine sq 3 rfl rfl (Y_fieldAddr (B := some ⟨b, 0, none⟩) (i := 0) (s := 0) k_fd_47_0_0_3 k_sz_3_1 rfl rfl) ?_
  refine sq 4 rfl rfl (Y_load1 (B := some ⟨b, 0, none⟩) (i := 0) (cs := [vi x.A, vi x.B, vi x.C, vi x.D]) (v := vi x.A) k_sc_3 rfl rfl (hS2.cf (i := 0) rfl) rfl) ?_
  refine sq 5 rfl rfl (Y_fieldAddr (B := some ⟨b, 0, none⟩) (i := 0) (s := 0) k_fd_47_3_3_3 k_sz_3_1 rfl rfl) ?_
  refine sq 6 rfl rfl (Y_load1 (B := some ⟨b, 0, none⟩) (i := 3) (cs := [vi x.A, vi x.B, vi x.C, vi x.D]) (v := vi x.D) k_sc_3 rfl rfl (hS2.cf (i := 0) rfl) rfl) ?_
  refine sq 7 rfl rfl (Y_neg (k := .i64) (a := x.D) rfl rfl) ?_
  refine sq 8 rfl rfl (Y_fieldAddr (B := some ⟨b, 0, none⟩) (i := 0) (s := 0) k_fd_47_2_2_3 k_sz_3_1 rfl rfl) ?_
  refine sq 9 rfl rfl (Y_load1 (B := some ⟨b, 0, none⟩) (i := 2) (cs := [vi x.A, vi x.B, vi x.C, vi x.D]) (v := vi x.C) k_sc_3 rfl rfl (hS2.cf (i := 0) rfl) rfl) ?_
  refine sq 10 rfl rfl (Y_neg (k := .i64) (a := x.C) rfl rfl) ?_
  refine sq 11 rfl rfl (Y_fieldAddr (B := some ⟨b, 0, none⟩) (i := 0) (s := 0) k_fd_47_1_1_3 k_sz_3_1 rfl rfl) ?_
  refine sq 12 rfl rfl (Y_load1 (B := some ⟨b, 0, none⟩) (i := 1) (cs := [vi x.A, vi x.B, vi x.C, vi x.D]) (v := vi x.B) k_sc_3 rfl rfl (hS2.cf (i := 0) rfl) rfl) ?_
  refine sq 13 rfl rfl (Y_neg (k := .i64) (a := x.B) rfl rfl) ?_
  refine sq 14 rfl rfl (Y_buildS (zs := [vi 0, vi 0, vi 0, vi 0]) (vs := [(0, vi x.A), (1, vi (i64.wrap (-x.D))), (2, vi (i64.wrap (-x.C))), (3, vi (i64.wrap (-x.B)))]) (cs := [vi x.A, vi (i64.wrap (-x.D)), vi (i64.wrap (-x.C)), vi (i64.wrap (-x.B))]) k_pl_47 k_zero_47 rfl (mpc rfl (mpc rfl (mpc rfl (mpc rfl mpn)))) rfl) ?_
  refine ss0 rfl rfl (Ys_store (i := 1) (s := 4) (B := some ⟨b1, 0, none⟩) (T' := 47) (v := .agg #[vi x.A, vi (i64.wrap (-x.D)), vi (i64.wrap (-x.C)), vi (i64.wrap (-x.B))]) (vs := [vi x.A, vi (i64.wrap (-x.D)), vi (i64.wrap (-x.C)), vi (i64.wrap (-x.B))]) (k := 0) (cs' := [vi x.A, vi (i64.wrap (-x.D)), vi (i64.wrap (-x.C)), vi (i64.wrap (-x.B))]) hS2 k_sz_47_4 rfl rfl rfl rfl rfl rfl rfl (Nat.le_of_ble_eq_true rfl) rfl rfl) ?_
  rintro _ w_2 ⟨rfl, hS3⟩
  have hS3 : ST w0 [] _ [⟨some ⟨b, 0, none⟩, 47, [vi x.A, vi x.B, vi x.C, vi x.D], 4⟩, ⟨some ⟨b1, 0, none⟩, 47, [vi x.A, vi (i64.wrap (-x.D)), vi (i64.wrap (-x.C)), vi (i64.wrap (-x.B))], 4⟩] [] := hS3
  refine rw_nil ?_
  refine cw_ret ?_
  obtain rfl := some_inj hF
  exact ret1 Tryd.results83 (v1 := .agg #[vi x.A, vi (i64.wrap (-x.D)), vi (i64.wrap (-x.C)), vi (i64.wrap (-x.B))]) (resAt_cellA (B := some ⟨b1, 0, none⟩) (i := 0) (cs := [vi x.A, vi (i64.wrap (-x.D)), vi (i64.wrap (-x.C)), vi (i64.wrap (-x.B))]) (vs := [vi x.A, vi (i64.wrap (-x.D)), vi (i64.wrap (-x.C)), vi (i64.wrap (-x.B))]) rfl k_ag_47 k_sz_47_4 (hS3.cf (i := 1) rfl) rfl rfl) ⟨rfl, (ST.subR (R' := []) (hS3.sel [] rfl rfl) (fun _ h => by cases h))⟩

theorem c_spec_l2Conj (x : TDyadic)  (w0 : World)  (hS : ST w0 [] w0 [] []) {r_ : TDyadic} (hF : F_spec_l2Conj x = some r_) :
    CV Tryd.prog 51 #[.agg #[vi x.Num.A, vi x.Num.B, vi x.Num.C, vi x.Num.D, vi x.Exp]] w0 (fun v w' => v = .agg #[vi r_.Num.A, vi r_.Num.B, vi r_.Num.C, vi r_.Num.D, vi r_.Exp] ∧ ST w0 [] w' [] []) := by
  unfold F_spec_l2Conj at hF
  refine cv_of_cw 9 Tryd.func51 rfl Tryd.ntmps51 rfl ?_
  refine cw_seq ?_
  refine cw_region ?_
  refine ss 1 rfl rfl (Ys_box (T := 49) (v := .agg #[vi x.Num.A, vi x.Num.B, vi x.Num.C, vi x.Num.D, vi x.Exp]) (cs := [vi x.Num.A, vi x.Num.B, vi x.Num.C, vi x.Num.D, vi x.Exp]) (m := 5) hS rfl rfl rfl rfl) ?_
  rintro _ w_ ⟨b, rfl, hS1⟩
  refine ss 2 rfl rfl (Ys_alloc (T := 49) (cs := [vi 0, vi 0, vi 0, vi 0, vi 0]) (m := 5) hS1 k_zero_49 rfl rfl rfl) ?_
  rintro _ w_1 ⟨b1, rfl, hS2⟩
  have hS2 : ST w0 [] _ [⟨some ⟨b, 0, none⟩, 49, [vi x.Num.A, vi x.Num.B, vi x.Num.C, vi x.Num.D, vi x.Exp], 5⟩, ⟨some ⟨b1, 0, none⟩, 49, [vi 0, vi 0, vi 0, vi 0, vi 0], 5⟩] [] := hS2
  refine rw_nil ?_
  refine cw_seq ?_
  obtain ⟨r_1, hc, hF⟩ := bind_inv hF
  refine ra_start (ST.sel hS2 [0] rfl rfl).fn (by kernel_rfl) ?_
  have hS4 := hS2.drew
  refine ra_q 0 3 (v := pt (some ⟨b, 0, none⟩) 0) rfl rfl rfl (by kernel_rfl) (by kernel_rfl) (by kernel_rfl) (ST.sel hS4 [0] rfl rfl) (fun w' hw' => (Y_fieldAddr (B := some ⟨b, 0, none⟩) (i := 0) (s := 3) k_fd_49_0_0_47 k_sz_47_4 rfl rfl)) ?_
  refine ra_q 1 4 (v := .agg #[vi x.Num.A, vi x.Num.B, vi x.Num.C, vi x.Num.D]) rfl rfl rfl (by kernel_rfl) (by kernel_rfl) (by kernel_rfl) (ST.sel hS4 [0] rfl rfl) (fun w' hw' => (Y_loadA (B := some ⟨b, 0, none⟩) (i := 0) (cs := [vi x.Num.A, vi x.Num.B, vi x.Num.C, vi x.Num.D, vi x.Exp]) (vs := [vi x.Num.A, vi x.Num.B, vi x.Num.C, vi x.Num.D]) k_ag_47 k_sz_47_4 rfl rfl (ST.cf hw' (i := 0) rfl) rfl rfl)) ?_
  refine ra_q 3 6 (v := pt (some ⟨b, 0, none⟩) 4) rfl rfl rfl (by kernel_rfl) (by kernel_rfl) (by kernel_rfl) (ST.sel hS4 [0] rfl rfl) (fun w' hw' => (Y_fieldAddr (B := some ⟨b, 0, none⟩) (i := 0) (s := 0) k_fd_49_1_4_3 k_sz_3_1 rfl rfl)) ?_
  refine ra_q 4 7 (v := vi x.Exp) rfl rfl rfl (by kernel_rfl) (by kernel_rfl) (by kernel_rfl) (ST.sel hS4 [0] rfl rfl) (fun w' hw' => (Y_load1 (B := some ⟨b, 0, none⟩) (i := 4) (cs := [vi x.Num.A, vi x.Num.B, vi x.Num.C, vi x.Num.D, vi x.Exp]) (v := vi x.Exp) k_sc_3 rfl rfl (ST.cf hw' (i := 0) rfl) rfl)) ?_
  refine ra_all (rs := [2]) (by kernel_rfl) rfl ?_
  refine ra_c 5 (i := 2) rfl rfl rfl (Yc_func (g := 83) (vs := [.agg #[vi x.Num.A, vi x.Num.B, vi x.Num.C, vi x.Num.D]]) k_call_83 rfl (mc rfl mn) (c_spec_l1Conj x.Num _  (hS4.inn0 [] rfl) hc)) ?_ ?_
  · rintro _ w_2 ⟨rfl, hd⟩
    have hS5 := hS4.out00 hd
    have hS5 : ST w0 [] _ [⟨some ⟨b, 0, none⟩, 49, [vi x.Num.A, vi x.Num.B, vi x.Num.C, vi x.Num.D, vi x.Exp], 5⟩, ⟨some ⟨b1, 0, none⟩, 49, [vi 0, vi 0, vi 0, vi 0, vi 0], 5⟩] [] := hS5
    refine ⟨(ST.sel hS5 [0] rfl rfl), ?_⟩
    refine ra_q 5 8 (v := .agg #[vi r_1.A, vi r_1.B, vi r_1.C, vi r_1.D, vi x.Exp]) rfl rfl rfl (by kernel_rfl) (by kernel_rfl) (by kernel_rfl) (ST.sel hS5 [0] rfl rfl) (fun w' hw' => (Y_buildS (zs := [vi 0, vi 0, vi 0, vi 0, vi 0]) (vs := [(0, .agg #[vi r_1.A, vi r_1.B, vi r_1.C, vi r_1.D]), (1, vi x.Exp)]) (cs := [vi r_1.A, vi r_1.B, vi r_1.C, vi r_1.D, vi x.Exp]) k_pl_49 k_zero_49 rfl (mpc rfl (mpc rfl mpn)) rfl)) ?_
    refine ra_all (rs := [6]) (by kernel_rfl) rfl ?_
    refine ra_s0 (i := 6) rfl rfl rfl (Ys_store (i := 1) (s := 5) (B := some ⟨b1, 0, none⟩) (T' := 49) (v := .agg #[vi r_1.A, vi r_1.B, vi r_1.C, vi r_1.D, vi x.Exp]) (vs := [vi r_1.A, vi r_1.B, vi r_1.C, vi r_1.D, vi x.Exp]) (k := 0) (cs' := [vi r_1.A, vi r_1.B, vi r_1.C, vi r_1.D, vi x.Exp]) hS5 k_sz_49_5 rfl rfl rfl rfl rfl rfl rfl (Nat.le_of_ble_eq_true rfl) rfl rfl) ?_ ?_
    · rintro _ w_3 ⟨rfl, hS6⟩
      have hS6 : ST w0 [] _ [⟨some ⟨b, 0, none⟩, 49, [vi x.Num.A, vi x.Num.B, vi x.Num.C, vi x.Num.D, vi x.Exp], 5⟩, ⟨some ⟨b1, 0, none⟩, 49, [vi r_1.A, vi r_1.B, vi r_1.C, vi r_1.D, vi x.Exp], 5⟩] [] := hS6
      refine ⟨(ST.sel hS6 [0] rfl rfl), ?_⟩
      refine ra_done (by kernel_rfl) ?_
      refine cw_ret ?_
      obtain rfl := some_inj hF
      exact ret1 Tryd.results51 (v1 := .agg #[vi r_1.A, vi r_1.B, vi r_1.C, vi r_1.D, vi x.Exp]) (resAt_cellA (B := some ⟨b1, 0, none⟩) (i := 0) (cs := [vi r_1.A, vi r_1.B, vi r_1.C, vi r_1.D, vi x.Exp]) (vs := [vi r_1.A, vi r_1.B, vi r_1.C, vi r_1.D, vi x.Exp]) rfl k_ag_49 k_sz_49_5 (hS6.cf (i := 1) rfl) rfl rfl) ⟨rfl, (ST.subR (R' := []) (hS6.sel [] rfl rfl) (fun _ h => by cases h))⟩
    exact allR_nil
  exact allR_nil
end Go.VK
