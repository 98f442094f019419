/- Walks: each Go function returns what its Lean function says. By program. -/
import Derived.Test.YthfilimbhhijaaaIsOneQubitFa
import Derived.Test.YthfilimbhhijaaaIsOneQubitW3
set_option linter.unusedVariables false
set_option maxRecDepth 100000
set_option maxHeartbeats 1000000
namespace Go.VK
open Go.RowKit
open Go.Proofs
attribute [local irreducible] CW RW RA CV Y Yw Yc Ys RetOf
attribute [local irreducible] F_laws_szDyadicS F_laws_szMatrix F_laws_toRing F_laws_toDyadic F_laws_toDyadicS F_laws_toMatrix F_laws_eqRing F_laws_eqDyadic F_laws_eqDyadicS F_laws_eqMatrix F_spec_l1In F_spec_l1All F_spec_l1Good F_spec_l1Even F_spec_l2Good F_spec_l1Has F_spec_l3Dim F_spec_l3Good F_spec_l1Root F_spec_l1Half F_spec_l2Low F_spec_l2C_ring F_spec_l1Mul F_spec_l2C_mul F_spec_l1Add F_spec_l2C_add F_spec_l2C_times F_spec_l1Conj F_spec_l2Conj F_spec_l3Adj F_spec_EqualMatrices F_spec_l1Turn F_spec_l2Power F_spec_l3Unit F_spec_IsUnitary F_spec_l9Good F_spec_IsOneQubit F_slices_IndexFunc_impl_Dyadic_impl_Dyadic F_slices_ContainsFunc_impl_Dyadic_impl_Dyadic F_impl_within F_impl_isDim F_impl_isCoef F_impl_IsValidRing F_impl_isEven F_impl_IsValidDyadic F_impl_IsValidMatrix_1 F_impl_IsValidMatrix F_impl_matrixOf F_impl_ringIf F_impl_Conjugate F_impl_ConjDyadic F_impl_Matrix_at F_impl_Adjoint_1 F_impl_Adjoint F_impl_MulRing F_impl_DivRootTwo F_impl_DyadicOf F_impl_MulDyadic F_impl_MulRootTwo F_impl_raised F_impl_combined F_impl_AddRing F_impl_AddDyadic F_impl_MulMatrix_1 F_impl_MulMatrix F_impl_whole F_impl_IdentityMatrix_1 F_impl_IdentityMatrix F_slices_Equal_impl_Dyadic_impl_Dyadic F_impl_EqualMatrices F_impl_IsUnitary F_impl_IsOneQubit F_laws_FnExactIsOneQubit
theorem c_impl_EqualMatrices (a : TMatrix) (b : TMatrix) (B : Option Addr) (c n : Nat) (B1 : Option Addr) (c1 n1 : Nat) (w0 : World) (hn : a.Cells.length = n) (hn1 : b.Cells.length = n1) (hS : ST w0 [] w0 [] [⟨B, (a.Cells.flatMap enc_Dyadic)⟩, ⟨B1, (b.Cells.flatMap enc_Dyadic)⟩]) {r_ : Bool} (hF : F_impl_EqualMatrices a b = some r_) :
    CV Try.prog 103 #[.agg #[.int .i64 a.Rows, .int .i64 a.Cols, .slice B n c], .agg #[.int .i64 b.Rows, .int .i64 b.Cols, .slice B1 n1 c1]] w0 (fun v w' => v = .bool r_ ∧ ST w0 [] w' [] []) := by
  subst hn
  subst hn1
  unfold F_impl_EqualMatrices at hF
  refine cv_of_cw 24 Try.func103 rfl Try.ntmps103 rfl ?_
  refine cw_seq ?_
  refine cw_region ?_
  refine ss 2 rfl rfl (Ys_box (T := 62) (v := .agg #[.int .i64 a.Rows, .int .i64 a.Cols, .slice B a.Cells.length c]) (cs := [.int .i64 a.Rows, .int .i64 a.Cols, .slice B a.Cells.length c]) (m := 3) hS rfl rfl rfl rfl) ?_
  rintro _ w_ ⟨b1, rfl, hS1⟩
  refine ss 3 rfl rfl (Ys_box (T := 62) (v := .agg #[.int .i64 b.Rows, .int .i64 b.Cols, .slice B1 b.Cells.length c1]) (cs := [.int .i64 b.Rows, .int .i64 b.Cols, .slice B1 b.Cells.length c1]) (m := 3) hS1 rfl rfl rfl rfl) ?_
  rintro _ w_1 ⟨b2, rfl, hS2⟩
  have hS2 : ST w0 [] _ [⟨some ⟨b1, 0, none⟩, 62, [.int .i64 a.Rows, .int .i64 a.Cols, .slice B a.Cells.length c], 3⟩, ⟨some ⟨b2, 0, none⟩, 62, [.int .i64 b.Rows, .int .i64 b.Cols, .slice B1 b.Cells.length c1], 3⟩] [⟨B, (a.Cells.flatMap enc_Dyadic)⟩, ⟨B1, (b.Cells.flatMap enc_Dyadic)⟩] := hS2
  refine sq 4 rfl rfl (Y_assign (v := .bool false) rfl rfl) ?_
  refine rw_nil ?_
  refine cw_seq ?_
  refine cw_region ?_
  refine sq 5 rfl rfl (Y_fieldAddr (B := some ⟨b1, 0, none⟩) (i := 0) (s := 0) k_fd_62_0_0_3 k_sz_3_1 rfl rfl) ?_
  refine sq 6 rfl rfl (Y_load1 (B := some ⟨b1, 0, none⟩) (i := 0) (cs := [.int .i64 a.Rows, .int .i64 a.Cols, .slice B a.Cells.length c]) (v := .int .i64 a.Rows) k_sc_3 rfl rfl (hS2.cf (i := 0) rfl) rfl) ?_
  refine sq 7 rfl rfl (Y_fieldAddr (B := some ⟨b2, 0, none⟩) (i := 0) (s := 0) k_fd_62_0_0_3 k_sz_3_1 rfl rfl) ?_
  refine sq 8 rfl rfl (Y_load1 (B := some ⟨b2, 0, none⟩) (i := 0) (cs := [.int .i64 b.Rows, .int .i64 b.Cols, .slice B1 b.Cells.length c1]) (v := .int .i64 b.Rows) k_sc_3 rfl rfl (hS2.cf (i := 1) rfl) rfl) ?_
  refine sq 9 rfl rfl (Y_eq (k := .i64) (a := a.Rows) (b := b.Rows) rfl rfl rfl) ?_
  refine sq 10 rfl rfl (Y_move (v := .bool (a.Rows == b.Rows)) rfl rfl) ?_
  refine sgq 11 (B := (a.Rows == b.Rows)) (v := pt (some ⟨b1, 0, none⟩) 1) rfl rfl (wt_t (gd_of (t := 10) (by kernel_rfl) rfl)) (fun hg => (Y_fieldAddr (B := some ⟨b1, 0, none⟩) (i := 0) (s := 0) k_fd_62_1_1_3 k_sz_3_1 rfl rfl)) ?_
  refine sgq 12 (B := (a.Rows == b.Rows)) (v := .int .i64 a.Cols) rfl rfl (wt_t (gd_of (t := 10) (by kernel_rfl) rfl)) (fun hg1 => (Y_load1 (B := some ⟨b1, 0, none⟩) (i := 1) (cs := [.int .i64 a.Rows, .int .i64 a.Cols, .slice B a.Cells.length c]) (v := .int .i64 a.Cols) k_sc_3 rfl (gv_of (B := (a.Rows == b.Rows)) (v := pt (some ⟨b1, 0, none⟩) 1) hg1) (hS2.cf (i := 0) rfl) rfl)) ?_
  refine sgq 13 (B := (a.Rows == b.Rows)) (v := pt (some ⟨b2, 0, none⟩) 1) rfl rfl (wt_t (gd_of (t := 10) (by kernel_rfl) rfl)) (fun hg2 => (Y_fieldAddr (B := some ⟨b2, 0, none⟩) (i := 0) (s := 0) k_fd_62_1_1_3 k_sz_3_1 rfl rfl)) ?_
  refine sgq 14 (B := (a.Rows == b.Rows)) (v := .int .i64 b.Cols) rfl rfl (wt_t (gd_of (t := 10) (by kernel_rfl) rfl)) (fun hg3 => (Y_load1 (B := some ⟨b2, 0, none⟩) (i := 1) (cs := [.int .i64 b.Rows, .int .i64 b.Cols, .slice B1 b.Cells.length c1]) (v := .int .i64 b.Cols) k_sc_3 rfl (gv_of (B := (a.Rows == b.Rows)) (v := pt (some ⟨b2, 0, none⟩) 1) hg3) (hS2.cf (i := 1) rfl) rfl)) ?_
  refine sgq 15 (B := (a.Rows == b.Rows)) (v := .bool (a.Cols == b.Cols)) rfl rfl (wt_t (gd_of (t := 10) (by kernel_rfl) rfl)) (fun hg4 => (Y_eq (k := .i64) (a := a.Cols) (b := b.Cols) rfl (gv_of (B := (a.Rows == b.Rows)) (v := .int .i64 a.Cols) hg4) (gv_of (B := (a.Rows == b.Rows)) (v := .int .i64 b.Cols) hg4))) ?_
  refine sq 16 rfl rfl (Y_and (b := (a.Rows == b.Rows)) (z := (a.Cols == b.Cols)) rfl rfl rfl rfl) ?_
  refine sq 17 rfl rfl (Y_move (v := .bool ((a.Rows == b.Rows) && (a.Cols == b.Cols))) rfl rfl) ?_
  refine sgq 18 (B := ((a.Rows == b.Rows) && (a.Cols == b.Cols))) (v := pt (some ⟨b1, 0, none⟩) 2) rfl rfl (wt_t (gd_of (t := 17) (by kernel_rfl) rfl)) (fun hg5 => (Y_fieldAddr (B := some ⟨b1, 0, none⟩) (i := 0) (s := 0) k_fd_62_2_2_27 k_sz_27_1 rfl rfl)) ?_
  refine sgq 19 (B := ((a.Rows == b.Rows) && (a.Cols == b.Cols))) (v := .slice B a.Cells.length c) rfl rfl (wt_t (gd_of (t := 17) (by kernel_rfl) rfl)) (fun hg6 => (Y_load1 (B := some ⟨b1, 0, none⟩) (i := 2) (cs := [.int .i64 a.Rows, .int .i64 a.Cols, .slice B a.Cells.length c]) (v := .slice B a.Cells.length c) k_sc_27 rfl (gv_of (B := ((a.Rows == b.Rows) && (a.Cols == b.Cols))) (v := pt (some ⟨b1, 0, none⟩) 2) hg6) (hS2.cf (i := 0) rfl) rfl)) ?_
  refine sgq 20 (B := ((a.Rows == b.Rows) && (a.Cols == b.Cols))) (v := pt (some ⟨b2, 0, none⟩) 2) rfl rfl (wt_t (gd_of (t := 17) (by kernel_rfl) rfl)) (fun hg7 => (Y_fieldAddr (B := some ⟨b2, 0, none⟩) (i := 0) (s := 0) k_fd_62_2_2_27 k_sz_27_1 rfl rfl)) ?_
  refine sgq 21 (B := ((a.Rows == b.Rows) && (a.Cols == b.Cols))) (v := .slice B1 b.Cells.length c1) rfl rfl (wt_t (gd_of (t := 17) (by kernel_rfl) rfl)) (fun hg8 => (Y_load1 (B := some ⟨b2, 0, none⟩) (i := 2) (cs := [.int .i64 b.Rows, .int .i64 b.Cols, .slice B1 b.Cells.length c1]) (v := .slice B1 b.Cells.length c1) k_sc_27 rfl (gv_of (B := ((a.Rows == b.Rows) && (a.Cols == b.Cols))) (v := pt (some ⟨b2, 0, none⟩) 2) hg8) (hS2.cf (i := 1) rfl) rfl)) ?_
  obtain ⟨r_1, hc, hF⟩ := bind_inv hF
  refine sgc 22 (B := ((a.Rows == b.Rows) && (a.Cols == b.Cols))) (v := .bool r_1) (F := hS2.fn) rfl rfl (wt_t (gd_of (t := 17) (by kernel_rfl) rfl)) hS2 (fun hg9 => (Yc_func (g := 161) (vs := [.slice B a.Cells.length c, .slice B1 b.Cells.length c1]) k_call_161 rfl (mc (gv_of (B := ((a.Rows == b.Rows) && (a.Cols == b.Cols))) (v := .slice B a.Cells.length c) hg9) (mc (gv_of (B := ((a.Rows == b.Rows) && (a.Cols == b.Cols))) (v := .slice B1 b.Cells.length c1) hg9) mn)) (CV.mono (c_slices_Equal_impl_Dyadic_impl_Dyadic a.Cells b.Cells B c a.Cells.length B1 c1 b.Cells.length _ rfl rfl (hS2.inn0 [(true, 0), (true, 1)] rfl) (gb_inv hc hg9)) (by rintro _ _ ⟨rfl, h⟩; exact ⟨rfl, hS2.out00 h⟩)))) ?_
  rintro w_2 hS3
  have hS3 : ST _ _ w_2 _ _ := hS3
  refine sq 23 rfl rfl (Y_and (b := ((a.Rows == b.Rows) && (a.Cols == b.Cols))) (z := r_1) rfl rfl rfl rfl) ?_
  refine sq 4 rfl rfl (Y_assign (v := .bool (((a.Rows == b.Rows) && (a.Cols == b.Cols)) && r_1)) rfl rfl) ?_
  refine rw_nil ?_
  refine cw_ret ?_
  obtain rfl := some_inj hF
  exact ret1 Try.results103 (v1 := .bool (((a.Rows == b.Rows) && (a.Cols == b.Cols)) && r_1)) (resAt_tmp rfl) ⟨rfl, (ST.subR (R' := []) (hS3.sel [] rfl rfl) (fun _ h => by cases h))⟩

theorem c_impl_IsUnitary (m : TMatrix) (B : Option Addr) (c n : Nat) (w0 : World) (hn : m.Cells.length = n) (hS : ST w0 [] w0 [] [⟨B, (m.Cells.flatMap enc_Dyadic)⟩]) {r_ : Bool} {r_1 : Bool} (hF : F_impl_IsUnitary m = some (r_, r_1)) :
    CV Try.prog 37 #[.agg #[.int .i64 m.Rows, .int .i64 m.Cols, .slice B n c]] w0 (fun v w' => v = .tuple #[.bool r_, .bool r_1] ∧ ST w0 [] w' [] []) := by
  subst hn
  unfold F_impl_IsUnitary at hF
  refine cv_of_cw 44 Try.func37 rfl Try.ntmps37 rfl ?_
  refine cw_seq ?_
  refine cw_region ?_
  refine ss 1 rfl rfl (Ys_box (T := 62) (v := .agg #[.int .i64 m.Rows, .int .i64 m.Cols, .slice B m.Cells.length c]) (cs := [.int .i64 m.Rows, .int .i64 m.Cols, .slice B m.Cells.length c]) (m := 3) hS rfl rfl rfl rfl) ?_
  rintro _ w_ ⟨b, rfl, hS1⟩
  refine sq 2 rfl rfl (Y_assign (v := .bool false) rfl rfl) ?_
  refine sq 3 rfl rfl (Y_assign (v := .bool false) rfl rfl) ?_
  refine rw_nil ?_
  refine cw_seq ?_
  refine cw_seq ?_
  refine cw_region ?_
  refine sq 10 rfl rfl (Y_loadA (B := some ⟨b, 0, none⟩) (i := 0) (cs := [.int .i64 m.Rows, .int .i64 m.Cols, .slice B m.Cells.length c]) (vs := [.int .i64 m.Rows, .int .i64 m.Cols, .slice B m.Cells.length c]) k_ag_62 k_sz_62_3 rfl rfl (hS1.cf (i := 0) rfl) rfl rfl) ?_
  obtain ⟨r_2, hc, hF⟩ := bind_inv hF
  refine sc 11 rfl rfl (Yc_func (g := 99) (vs := [.agg #[.int .i64 m.Rows, .int .i64 m.Cols, .slice B m.Cells.length c]]) k_call_99 rfl (mc rfl mn) (c_impl_IsValidMatrix m B c m.Cells.length _ rfl (hS1.inn0 [(true, 0)] rfl) hc)) ?_
  rintro _ w_1 ⟨rfl, hd⟩
  have hS2 := hS1.out00 hd
  refine sq 12 rfl rfl (Y_not (p := r_2) rfl rfl) ?_
  refine sq 13 rfl rfl (Y_move (v := .bool (!r_2)) rfl rfl) ?_
  refine sgq 14 (B := (!(!r_2))) (v := pt (some ⟨b, 0, none⟩) 0) rfl rfl (wt_f (gd_of (t := 13) (by kernel_rfl) rfl)) (fun hg => (Y_fieldAddr (B := some ⟨b, 0, none⟩) (i := 0) (s := 0) k_fd_62_0_0_3 k_sz_3_1 rfl rfl)) ?_
  refine sgq 15 (B := (!(!r_2))) (v := .int .i64 m.Rows) rfl rfl (wt_f (gd_of (t := 13) (by kernel_rfl) rfl)) (fun hg1 => (Y_load1 (B := some ⟨b, 0, none⟩) (i := 0) (cs := [.int .i64 m.Rows, .int .i64 m.Cols, .slice B m.Cells.length c]) (v := .int .i64 m.Rows) k_sc_3 rfl (gv_of (B := (!(!r_2))) (v := pt (some ⟨b, 0, none⟩) 0) hg1) (hS2.cf (i := 0) rfl) rfl)) ?_
  refine sgq 16 (B := (!(!r_2))) (v := pt (some ⟨b, 0, none⟩) 1) rfl rfl (wt_f (gd_of (t := 13) (by kernel_rfl) rfl)) (fun hg2 => (Y_fieldAddr (B := some ⟨b, 0, none⟩) (i := 0) (s := 0) k_fd_62_1_1_3 k_sz_3_1 rfl rfl)) ?_
  refine sgq 17 (B := (!(!r_2))) (v := .int .i64 m.Cols) rfl rfl (wt_f (gd_of (t := 13) (by kernel_rfl) rfl)) (fun hg3 => (Y_load1 (B := some ⟨b, 0, none⟩) (i := 1) (cs := [.int .i64 m.Rows, .int .i64 m.Cols, .slice B m.Cells.length c]) (v := .int .i64 m.Cols) k_sc_3 rfl (gv_of (B := (!(!r_2))) (v := pt (some ⟨b, 0, none⟩) 1) hg3) (hS2.cf (i := 0) rfl) rfl)) ?_
  refine sgq 18 (B := (!(!r_2))) (v := .bool (m.Rows != m.Cols)) rfl rfl (wt_f (gd_of (t := 13) (by kernel_rfl) rfl)) (fun hg4 => (Y_ne (k := .i64) (a := m.Rows) (b := m.Cols) rfl (gv_of (B := (!(!r_2))) (v := .int .i64 m.Rows) hg4) (gv_of (B := (!(!r_2))) (v := .int .i64 m.Cols) hg4))) ?_
  refine sq 19 rfl rfl (Y_or (b := (!r_2)) (z := (m.Rows != m.Cols)) rfl rfl rfl rfl) ?_
  refine rw_nil ?_
  refine cw_cond (b := ((!r_2) || (m.Rows != m.Cols))) rfl (fun hb => ?_) (fun hb => ?_)
  · skip
    have hF1 := ct hF hb
    refine cw_seq ?_
    refine cw_region ?_
    refine sq 2 rfl rfl (Y_assign (v := .bool false) rfl rfl) ?_
    refine sq 3 rfl rfl (Y_assign (v := .bool false) rfl rfl) ?_
    refine rw_nil ?_
    refine cw_ret ?_
    obtain ⟨rfl, rfl⟩ := pr2 (some_inj hF1)
    exact ret2 Try.results37 (v1 := .bool false) (resAt_tmp rfl) (v2 := .bool false) (resAt_tmp rfl) ⟨rfl, (ST.subR (R' := []) (hS2.sel [] rfl rfl) (fun _ h => by cases h))⟩
  · skip
    have hF2 := cf' hF hb
    refine cw_skip ?_
    refine cw_seq ?_
    refine cw_region ?_
    refine sq 21 rfl rfl (Y_loadA (B := some ⟨b, 0, none⟩) (i := 0) (cs := [.int .i64 m.Rows, .int .i64 m.Cols, .slice B m.Cells.length c]) (vs := [.int .i64 m.Rows, .int .i64 m.Cols, .slice B m.Cells.length c]) k_ag_62 k_sz_62_3 rfl rfl (hS2.cf (i := 0) rfl) rfl rfl) ?_
    obtain ⟨⟨r_3, r_4⟩, hc1, hF2⟩ := bind_inv hF2
    refine sc 22 rfl rfl (Yc_func (g := 100) (vs := [.agg #[.int .i64 m.Rows, .int .i64 m.Cols, .slice B m.Cells.length c]]) k_call_100 rfl (mc rfl mn) (c_impl_Adjoint m B c m.Cells.length _ rfl (hS2.inn0 [(true, 0)] rfl) hc1)) ?_
    rintro _ w_2 ⟨B1, c1, rfl, hd1⟩
    have hS3 := hS2.out0 hd1
    have hS3 : ST w0 [] _ [⟨some ⟨b, 0, none⟩, 62, [.int .i64 m.Rows, .int .i64 m.Cols, .slice B m.Cells.length c], 3⟩, ⟨B1, 91, (r_3.Cells.flatMap enc_Dyadic), c1 * 5⟩] [⟨B, (m.Cells.flatMap enc_Dyadic)⟩] := hS3
    refine sq 20 rfl rfl (Y_move (v := .tuple #[.agg #[.int .i64 r_3.Rows, .int .i64 r_3.Cols, .slice B1 r_3.Cells.length c1], .bool r_4]) rfl rfl) ?_
    refine sq 23 rfl rfl (Y_extract (v := .agg #[.int .i64 r_3.Rows, .int .i64 r_3.Cols, .slice B1 r_3.Cells.length c1]) rfl rfl rfl) ?_
    refine sq 24 rfl rfl (Y_extract (v := .bool r_4) rfl rfl rfl) ?_
    refine ss 4 rfl rfl (Ys_alloc (T := 62) (cs := [.int .i64 0, .int .i64 0, .slice none 0 0]) (m := 3) hS3 k_zero_62 rfl rfl rfl) ?_
    rintro _ w_3 ⟨b1, rfl, hS4⟩
    have hS4 : ST w0 [] _ [⟨some ⟨b, 0, none⟩, 62, [.int .i64 m.Rows, .int .i64 m.Cols, .slice B m.Cells.length c], 3⟩, ⟨B1, 91, (r_3.Cells.flatMap enc_Dyadic), c1 * 5⟩, ⟨some ⟨b1, 0, none⟩, 62, [.int .i64 0, .int .i64 0, .slice none 0 0], 3⟩] [⟨B, (m.Cells.flatMap enc_Dyadic)⟩] := hS4
    refine ss0 rfl rfl (Ys_store (i := 2) (s := 3) (B := some ⟨b1, 0, none⟩) (T' := 62) (v := .agg #[.int .i64 r_3.Rows, .int .i64 r_3.Cols, .slice B1 r_3.Cells.length c1]) (vs := [.int .i64 r_3.Rows, .int .i64 r_3.Cols, .slice B1 r_3.Cells.length c1]) (k := 0) (cs' := [.int .i64 r_3.Rows, .int .i64 r_3.Cols, .slice B1 r_3.Cells.length c1]) hS4 k_sz_62_3 rfl rfl rfl rfl rfl rfl rfl (Nat.le_of_ble_eq_true rfl) rfl rfl) ?_
    rintro _ w_4 ⟨rfl, hS5⟩
    have hS5 : ST w0 [] _ [⟨some ⟨b, 0, none⟩, 62, [.int .i64 m.Rows, .int .i64 m.Cols, .slice B m.Cells.length c], 3⟩, ⟨B1, 91, (r_3.Cells.flatMap enc_Dyadic), c1 * 5⟩, ⟨some ⟨b1, 0, none⟩, 62, [.int .i64 r_3.Rows, .int .i64 r_3.Cols, .slice B1 r_3.Cells.length c1], 3⟩] [⟨B, (m.Cells.flatMap enc_Dyadic)⟩] := hS5
    refine sq 5 rfl rfl (Y_assign (v := .bool r_4) rfl rfl) ?_
    refine rw_nil ?_
    refine cw_seq ?_
    refine cw_region ?_
    refine sq 26 rfl rfl (Y_loadA (B := some ⟨b, 0, none⟩) (i := 0) (cs := [.int .i64 m.Rows, .int .i64 m.Cols, .slice B m.Cells.length c]) (vs := [.int .i64 m.Rows, .int .i64 m.Cols, .slice B m.Cells.length c]) k_ag_62 k_sz_62_3 rfl rfl (hS5.cf (i := 0) rfl) rfl rfl) ?_
    refine sq 27 rfl rfl (Y_loadA (B := some ⟨b1, 0, none⟩) (i := 0) (cs := [.int .i64 r_3.Rows, .int .i64 r_3.Cols, .slice B1 r_3.Cells.length c1]) (vs := [.int .i64 r_3.Rows, .int .i64 r_3.Cols, .slice B1 r_3.Cells.length c1]) k_ag_62 k_sz_62_3 rfl rfl (hS5.cf (i := 2) rfl) rfl rfl) ?_
    obtain ⟨⟨r_5, r_6⟩, hc2, hF2⟩ := bind_inv hF2
    refine sc 28 rfl rfl (Yc_func (g := 101) (vs := [.agg #[.int .i64 m.Rows, .int .i64 m.Cols, .slice B m.Cells.length c], .agg #[.int .i64 r_3.Rows, .int .i64 r_3.Cols, .slice B1 r_3.Cells.length c1]]) k_call_101 rfl (mc rfl (mc rfl mn)) (c_impl_MulMatrix m r_3 B c m.Cells.length B1 c1 r_3.Cells.length _ rfl rfl (hS5.inn0 [(true, 0), (false, 1)] rfl) hc2)) ?_
    rintro _ w_5 ⟨B2, c2, rfl, hd2⟩
    have hS6 := hS5.out0 hd2
    have hS6 : ST w0 [] _ [⟨some ⟨b, 0, none⟩, 62, [.int .i64 m.Rows, .int .i64 m.Cols, .slice B m.Cells.length c], 3⟩, ⟨B1, 91, (r_3.Cells.flatMap enc_Dyadic), c1 * 5⟩, ⟨some ⟨b1, 0, none⟩, 62, [.int .i64 r_3.Rows, .int .i64 r_3.Cols, .slice B1 r_3.Cells.length c1], 3⟩, ⟨B2, 91, (r_5.Cells.flatMap enc_Dyadic), c2 * 5⟩] [⟨B, (m.Cells.flatMap enc_Dyadic)⟩] := hS6
    refine sq 25 rfl rfl (Y_move (v := .tuple #[.agg #[.int .i64 r_5.Rows, .int .i64 r_5.Cols, .slice B2 r_5.Cells.length c2], .bool r_6]) rfl rfl) ?_
    refine sq 29 rfl rfl (Y_extract (v := .agg #[.int .i64 r_5.Rows, .int .i64 r_5.Cols, .slice B2 r_5.Cells.length c2]) rfl rfl rfl) ?_
    refine sq 30 rfl rfl (Y_extract (v := .bool r_6) rfl rfl rfl) ?_
    refine ss 6 rfl rfl (Ys_alloc (T := 62) (cs := [.int .i64 0, .int .i64 0, .slice none 0 0]) (m := 3) hS6 k_zero_62 rfl rfl rfl) ?_
    rintro _ w_6 ⟨b2, rfl, hS7⟩
    have hS7 : ST w0 [] _ [⟨some ⟨b, 0, none⟩, 62, [.int .i64 m.Rows, .int .i64 m.Cols, .slice B m.Cells.length c], 3⟩, ⟨B1, 91, (r_3.Cells.flatMap enc_Dyadic), c1 * 5⟩, ⟨some ⟨b1, 0, none⟩, 62, [.int .i64 r_3.Rows, .int .i64 r_3.Cols, .slice B1 r_3.Cells.length c1], 3⟩, ⟨B2, 91, (r_5.Cells.flatMap enc_Dyadic), c2 * 5⟩, ⟨some ⟨b2, 0, none⟩, 62, [.int .i64 0, .int .i64 0, .slice none 0 0], 3⟩] [⟨B, (m.Cells.flatMap enc_Dyadic)⟩] := hS7
    refine ss0 rfl rfl (Ys_store (i := 4) (s := 3) (B := some ⟨b2, 0, none⟩) (T' := 62) (v := .agg #[.int .i64 r_5.Rows, .int .i64 r_5.Cols, .slice B2 r_5.Cells.length c2]) (vs := [.int .i64 r_5.Rows, .int .i64 r_5.Cols, .slice B2 r_5.Cells.length c2]) (k := 0) (cs' := [.int .i64 r_5.Rows, .int .i64 r_5.Cols, .slice B2 r_5.Cells.length c2]) hS7 k_sz_62_3 rfl rfl rfl rfl rfl rfl rfl (Nat.le_of_ble_eq_true rfl) rfl rfl) ?_
    rintro _ w_7 ⟨rfl, hS8⟩
    have hS8 : ST w0 [] _ [⟨some ⟨b, 0, none⟩, 62, [.int .i64 m.Rows, .int .i64 m.Cols, .slice B m.Cells.length c], 3⟩, ⟨B1, 91, (r_3.Cells.flatMap enc_Dyadic), c1 * 5⟩, ⟨some ⟨b1, 0, none⟩, 62, [.int .i64 r_3.Rows, .int .i64 r_3.Cols, .slice B1 r_3.Cells.length c1], 3⟩, ⟨B2, 91, (r_5.Cells.flatMap enc_Dyadic), c2 * 5⟩, ⟨some ⟨b2, 0, none⟩, 62, [.int .i64 r_5.Rows, .int .i64 r_5.Cols, .slice B2 r_5.Cells.length c2], 3⟩] [⟨B, (m.Cells.flatMap enc_Dyadic)⟩] := hS8
    refine sq 7 rfl rfl (Y_assign (v := .bool r_6) rfl rfl) ?_
    refine rw_nil ?_
    refine cw_seq ?_
    refine cw_region ?_
    refine sq 32 rfl rfl (Y_fieldAddr (B := some ⟨b, 0, none⟩) (i := 0) (s := 0) k_fd_62_0_0_3 k_sz_3_1 rfl rfl) ?_
    refine sq 33 rfl rfl (Y_load1 (B := some ⟨b, 0, none⟩) (i := 0) (cs := [.int .i64 m.Rows, .int .i64 m.Cols, .slice B m.Cells.length c]) (v := .int .i64 m.Rows) k_sc_3 rfl rfl (hS8.cf (i := 0) rfl) rfl) ?_
    obtain ⟨⟨r_7, r_8⟩, hc3, hF2⟩ := bind_inv hF2
    refine sc 34 rfl rfl (Yc_func (g := 102) (vs := [.int .i64 m.Rows]) k_call_102 rfl (mc rfl mn) (c_impl_IdentityMatrix m.Rows _  (hS8.inn0 [] rfl) hc3)) ?_
    rintro _ w_8 ⟨B3, c3, rfl, hd3⟩
    have hS9 := hS8.out0 hd3
    have hS9 : ST w0 [] _ [⟨some ⟨b, 0, none⟩, 62, [.int .i64 m.Rows, .int .i64 m.Cols, .slice B m.Cells.length c], 3⟩, ⟨B1, 91, (r_3.Cells.flatMap enc_Dyadic), c1 * 5⟩, ⟨some ⟨b1, 0, none⟩, 62, [.int .i64 r_3.Rows, .int .i64 r_3.Cols, .slice B1 r_3.Cells.length c1], 3⟩, ⟨B2, 91, (r_5.Cells.flatMap enc_Dyadic), c2 * 5⟩, ⟨some ⟨b2, 0, none⟩, 62, [.int .i64 r_5.Rows, .int .i64 r_5.Cols, .slice B2 r_5.Cells.length c2], 3⟩, ⟨B3, 91, (r_7.Cells.flatMap enc_Dyadic), c3 * 5⟩] [⟨B, (m.Cells.flatMap enc_Dyadic)⟩] := hS9
    refine sq 31 rfl rfl (Y_move (v := .tuple #[.agg #[.int .i64 r_7.Rows, .int .i64 r_7.Cols, .slice B3 r_7.Cells.length c3], .bool r_8]) rfl rfl) ?_
    refine sq 35 rfl rfl (Y_extract (v := .agg #[.int .i64 r_7.Rows, .int .i64 r_7.Cols, .slice B3 r_7.Cells.length c3]) rfl rfl rfl) ?_
    refine sq 36 rfl rfl (Y_extract (v := .bool r_8) rfl rfl rfl) ?_
    refine ss 8 rfl rfl (Ys_alloc (T := 62) (cs := [.int .i64 0, .int .i64 0, .slice none 0 0]) (m := 3) hS9 k_zero_62 rfl rfl rfl) ?_
    rintro _ w_9 ⟨b3, rfl, hS10⟩
    have hS10 : ST w0 [] _ [⟨some ⟨b, 0, none⟩, 62, [.int .i64 m.Rows, .int .i64 m.Cols, .slice B m.Cells.length c], 3⟩, ⟨B1, 91, (r_3.Cells.flatMap enc_Dyadic), c1 * 5⟩, ⟨some ⟨b1, 0, none⟩, 62, [.int .i64 r_3.Rows, .int .i64 r_3.Cols, .slice B1 r_3.Cells.length c1], 3⟩, ⟨B2, 91, (r_5.Cells.flatMap enc_Dyadic), c2 * 5⟩, ⟨some ⟨b2, 0, none⟩, 62, [.int .i64 r_5.Rows, .int .i64 r_5.Cols, .slice B2 r_5.Cells.length c2], 3⟩, ⟨B3, 91, (r_7.Cells.flatMap enc_Dyadic), c3 * 5⟩, ⟨some ⟨b3, 0, none⟩, 62, [.int .i64 0, .int .i64 0, .slice none 0 0], 3⟩] [⟨B, (m.Cells.flatMap enc_Dyadic)⟩] := hS10
    refine ss0 rfl rfl (Ys_store (i := 6) (s := 3) (B := some ⟨b3, 0, none⟩) (T' := 62) (v := .agg #[.int .i64 r_7.Rows, .int .i64 r_7.Cols, .slice B3 r_7.Cells.length c3]) (vs := [.int .i64 r_7.Rows, .int .i64 r_7.Cols, .slice B3 r_7.Cells.length c3]) (k := 0) (cs' := [.int .i64 r_7.Rows, .int .i64 r_7.Cols, .slice B3 r_7.Cells.length c3]) hS10 k_sz_62_3 rfl rfl rfl rfl rfl rfl rfl (Nat.le_of_ble_eq_true rfl) rfl rfl) ?_
    rintro _ w_10 ⟨rfl, hS11⟩
    have hS11 : ST w0 [] _ [⟨some ⟨b, 0, none⟩, 62, [.int .i64 m.Rows, .int .i64 m.Cols, .slice B m.Cells.length c], 3⟩, ⟨B1, 91, (r_3.Cells.flatMap enc_Dyadic), c1 * 5⟩, ⟨some ⟨b1, 0, none⟩, 62, [.int .i64 r_3.Rows, .int .i64 r_3.Cols, .slice B1 r_3.Cells.length c1], 3⟩, ⟨B2, 91, (r_5.Cells.flatMap enc_Dyadic), c2 * 5⟩, ⟨some ⟨b2, 0, none⟩, 62, [.int .i64 r_5.Rows, .int .i64 r_5.Cols, .slice B2 r_5.Cells.length c2], 3⟩, ⟨B3, 91, (r_7.Cells.flatMap enc_Dyadic), c3 * 5⟩, ⟨some ⟨b3, 0, none⟩, 62, [.int .i64 r_7.Rows, .int .i64 r_7.Cols, .slice B3 r_7.Cells.length c3], 3⟩] [⟨B, (m.Cells.flatMap enc_Dyadic)⟩] := hS11
    refine sq 9 rfl rfl (Y_assign (v := .bool r_8) rfl rfl) ?_
    refine rw_nil ?_
    refine cw_seq ?_
    refine cw_region ?_
    refine sq 37 rfl rfl (Y_move (v := .bool r_6) rfl rfl) ?_
    refine sq 38 rfl rfl (Y_move (v := .bool r_6) rfl rfl) ?_
    refine sgq 39 (B := r_6) (v := .agg #[.int .i64 r_5.Rows, .int .i64 r_5.Cols, .slice B2 r_5.Cells.length c2]) rfl rfl (wt_t (gd_of (t := 38) (by kernel_rfl) rfl)) (fun hg5 => (Y_loadA (B := some ⟨b2, 0, none⟩) (i := 0) (cs := [.int .i64 r_5.Rows, .int .i64 r_5.Cols, .slice B2 r_5.Cells.length c2]) (vs := [.int .i64 r_5.Rows, .int .i64 r_5.Cols, .slice B2 r_5.Cells.length c2]) k_ag_62 k_sz_62_3 rfl rfl (hS11.cf (i := 4) rfl) rfl rfl)) ?_
    refine sgq 40 (B := r_6) (v := .agg #[.int .i64 r_7.Rows, .int .i64 r_7.Cols, .slice B3 r_7.Cells.length c3]) rfl rfl (wt_t (gd_of (t := 38) (by kernel_rfl) rfl)) (fun hg6 => (Y_loadA (B := some ⟨b3, 0, none⟩) (i := 0) (cs := [.int .i64 r_7.Rows, .int .i64 r_7.Cols, .slice B3 r_7.Cells.length c3]) (vs := [.int .i64 r_7.Rows, .int .i64 r_7.Cols, .slice B3 r_7.Cells.length c3]) k_ag_62 k_sz_62_3 rfl rfl (hS11.cf (i := 6) rfl) rfl rfl)) ?_
    obtain ⟨r_9, hc4, hF2⟩ := bind_inv hF2
    refine sgc 41 (B := r_6) (v := .bool r_9) (F := hS11.fn) rfl rfl (wt_t (gd_of (t := 38) (by kernel_rfl) rfl)) hS11 (fun hg7 => (Yc_func (g := 103) (vs := [.agg #[.int .i64 r_5.Rows, .int .i64 r_5.Cols, .slice B2 r_5.Cells.length c2], .agg #[.int .i64 r_7.Rows, .int .i64 r_7.Cols, .slice B3 r_7.Cells.length c3]]) k_call_103 rfl (mc (gv_of (B := r_6) (v := .agg #[.int .i64 r_5.Rows, .int .i64 r_5.Cols, .slice B2 r_5.Cells.length c2]) hg7) (mc (gv_of (B := r_6) (v := .agg #[.int .i64 r_7.Rows, .int .i64 r_7.Cols, .slice B3 r_7.Cells.length c3]) hg7) mn)) (CV.mono (c_impl_EqualMatrices r_5 r_7 B2 c2 r_5.Cells.length B3 c3 r_7.Cells.length _ rfl rfl (hS11.inn0 [(false, 3), (false, 5)] rfl) (gb_inv hc4 hg7)) (by rintro _ _ ⟨rfl, h⟩; exact ⟨rfl, hS11.out00 h⟩)))) ?_
    rintro w_11 hS12
    have hS12 : ST _ _ w_11 _ _ := hS12
    refine sq 42 rfl rfl (Y_and (b := r_6) (z := r_9) rfl rfl rfl rfl) ?_
    refine sq 43 rfl rfl (Y_move (v := .bool r_6) rfl rfl) ?_
    refine sq 2 rfl rfl (Y_assign (v := .bool (r_6 && r_9)) rfl rfl) ?_
    refine sq 3 rfl rfl (Y_assign (v := .bool r_6) rfl rfl) ?_
    refine rw_nil ?_
    refine cw_ret ?_
    obtain ⟨rfl, rfl⟩ := pr2 (some_inj hF2)
    exact ret2 Try.results37 (v1 := .bool (r_6 && r_9)) (resAt_tmp rfl) (v2 := .bool r_6) (resAt_tmp rfl) ⟨rfl, (ST.subR (R' := []) (hS12.sel [] rfl rfl) (fun _ h => by cases h))⟩

theorem c_impl_IsOneQubit (m : TMatrix) (B : Option Addr) (c n : Nat) (w0 : World) (hn : m.Cells.length = n) (hS : ST w0 [] w0 [] [⟨B, (m.Cells.flatMap enc_Dyadic)⟩]) {r_ : Bool} (hF : F_impl_IsOneQubit m = some r_) :
    CV Try.prog 47 #[.agg #[.int .i64 m.Rows, .int .i64 m.Cols, .slice B n c]] w0 (fun v w' => v = .bool r_ ∧ ST w0 [] w' [] []) := by
  subst hn
  unfold F_impl_IsOneQubit at hF
  refine cv_of_cw 27 Try.func47 rfl Try.ntmps47 rfl ?_
  refine cw_seq ?_
  refine cw_region ?_
  refine ss 1 rfl rfl (Ys_box (T := 62) (v := .agg #[.int .i64 m.Rows, .int .i64 m.Cols, .slice B m.Cells.length c]) (cs := [.int .i64 m.Rows, .int .i64 m.Cols, .slice B m.Cells.length c]) (m := 3) hS rfl rfl rfl rfl) ?_
  rintro _ w_ ⟨b, rfl, hS1⟩
  refine sq 2 rfl rfl (Y_assign (v := .bool false) rfl rfl) ?_
  refine rw_nil ?_
  refine cw_seq ?_
  refine cw_seq ?_
  refine cw_region ?_
  refine sq 5 rfl rfl (Y_loadA (B := some ⟨b, 0, none⟩) (i := 0) (cs := [.int .i64 m.Rows, .int .i64 m.Cols, .slice B m.Cells.length c]) (vs := [.int .i64 m.Rows, .int .i64 m.Cols, .slice B m.Cells.length c]) k_ag_62 k_sz_62_3 rfl rfl (hS1.cf (i := 0) rfl) rfl rfl) ?_
  obtain ⟨r_1, hc, hF⟩ := bind_inv hF
  refine sc 6 rfl rfl (Yc_func (g := 99) (vs := [.agg #[.int .i64 m.Rows, .int .i64 m.Cols, .slice B m.Cells.length c]]) k_call_99 rfl (mc rfl mn) (c_impl_IsValidMatrix m B c m.Cells.length _ rfl (hS1.inn0 [(true, 0)] rfl) hc)) ?_
  rintro _ w_1 ⟨rfl, hd⟩
  have hS2 := hS1.out00 hd
  refine sq 7 rfl rfl (Y_not (p := r_1) rfl rfl) ?_
  refine sq 8 rfl rfl (Y_move (v := .bool (!r_1)) rfl rfl) ?_
  refine sgq 9 (B := (!(!r_1))) (v := pt (some ⟨b, 0, none⟩) 0) rfl rfl (wt_f (gd_of (t := 8) (by kernel_rfl) rfl)) (fun hg => (Y_fieldAddr (B := some ⟨b, 0, none⟩) (i := 0) (s := 0) k_fd_62_0_0_3 k_sz_3_1 rfl rfl)) ?_
  refine sgq 10 (B := (!(!r_1))) (v := .int .i64 m.Rows) rfl rfl (wt_f (gd_of (t := 8) (by kernel_rfl) rfl)) (fun hg1 => (Y_load1 (B := some ⟨b, 0, none⟩) (i := 0) (cs := [.int .i64 m.Rows, .int .i64 m.Cols, .slice B m.Cells.length c]) (v := .int .i64 m.Rows) k_sc_3 rfl (gv_of (B := (!(!r_1))) (v := pt (some ⟨b, 0, none⟩) 0) hg1) (hS2.cf (i := 0) rfl) rfl)) ?_
  refine sgq 11 (B := (!(!r_1))) (v := .bool (m.Rows != 2)) rfl rfl (wt_f (gd_of (t := 8) (by kernel_rfl) rfl)) (fun hg2 => (Y_ne (k := .i64) (a := m.Rows) (b := 2) rfl (gv_of (B := (!(!r_1))) (v := .int .i64 m.Rows) hg2) rfl)) ?_
  refine sq 12 rfl rfl (Y_or (b := (!r_1)) (z := (m.Rows != 2)) rfl rfl rfl rfl) ?_
  refine sq 13 rfl rfl (Y_move (v := .bool ((!r_1) || (m.Rows != 2))) rfl rfl) ?_
  refine sgq 14 (B := (!((!r_1) || (m.Rows != 2)))) (v := pt (some ⟨b, 0, none⟩) 1) rfl rfl (wt_f (gd_of (t := 13) (by kernel_rfl) rfl)) (fun hg3 => (Y_fieldAddr (B := some ⟨b, 0, none⟩) (i := 0) (s := 0) k_fd_62_1_1_3 k_sz_3_1 rfl rfl)) ?_
  refine sgq 15 (B := (!((!r_1) || (m.Rows != 2)))) (v := .int .i64 m.Cols) rfl rfl (wt_f (gd_of (t := 13) (by kernel_rfl) rfl)) (fun hg4 => (Y_load1 (B := some ⟨b, 0, none⟩) (i := 1) (cs := [.int .i64 m.Rows, .int .i64 m.Cols, .slice B m.Cells.length c]) (v := .int .i64 m.Cols) k_sc_3 rfl (gv_of (B := (!((!r_1) || (m.Rows != 2)))) (v := pt (some ⟨b, 0, none⟩) 1) hg4) (hS2.cf (i := 0) rfl) rfl)) ?_
  refine sgq 16 (B := (!((!r_1) || (m.Rows != 2)))) (v := .bool (m.Cols != 2)) rfl rfl (wt_f (gd_of (t := 13) (by kernel_rfl) rfl)) (fun hg5 => (Y_ne (k := .i64) (a := m.Cols) (b := 2) rfl (gv_of (B := (!((!r_1) || (m.Rows != 2)))) (v := .int .i64 m.Cols) hg5) rfl)) ?_
  refine sq 17 rfl rfl (Y_or (b := ((!r_1) || (m.Rows != 2))) (z := (m.Cols != 2)) rfl rfl rfl rfl) ?_
  refine rw_nil ?_
  refine cw_cond (b := (((!r_1) || (m.Rows != 2)) || (m.Cols != 2))) rfl (fun hb => ?_) (fun hb => ?_)
  · skip
    have hF1 := ct hF hb
    refine cw_seq ?_
    refine cw_region ?_
    refine sq 2 rfl rfl (Y_assign (v := .bool false) rfl rfl) ?_
    refine rw_nil ?_
    refine cw_ret ?_
    obtain rfl := some_inj hF1
    exact ret1 Try.results47 (v1 := .bool false) (resAt_tmp rfl) ⟨rfl, (ST.subR (R' := []) (hS2.sel [] rfl rfl) (fun _ h => by cases h))⟩
  · skip
    have hF2 := cf' hF hb
    refine cw_skip ?_
    refine cw_seq ?_
    refine cw_region ?_
    refine sq 19 rfl rfl (Y_loadA (B := some ⟨b, 0, none⟩) (i := 0) (cs := [.int .i64 m.Rows, .int .i64 m.Cols, .slice B m.Cells.length c]) (vs := [.int .i64 m.Rows, .int .i64 m.Cols, .slice B m.Cells.length c]) k_ag_62 k_sz_62_3 rfl rfl (hS2.cf (i := 0) rfl) rfl rfl) ?_
    obtain ⟨⟨r_2, r_3⟩, hc1, hF2⟩ := bind_inv hF2
    refine sc 20 rfl rfl (Yc_func (g := 37) (vs := [.agg #[.int .i64 m.Rows, .int .i64 m.Cols, .slice B m.Cells.length c]]) k_call_37 rfl (mc rfl mn) (c_impl_IsUnitary m B c m.Cells.length _ rfl (hS2.inn0 [(true, 0)] rfl) hc1)) ?_
    rintro _ w_2 ⟨rfl, hd1⟩
    have hS3 := hS2.out00 hd1
    refine sq 18 rfl rfl (Y_move (v := .tuple #[.bool r_2, .bool r_3]) rfl rfl) ?_
    refine sq 21 rfl rfl (Y_extract (v := .bool r_2) rfl rfl rfl) ?_
    refine sq 22 rfl rfl (Y_extract (v := .bool r_3) rfl rfl rfl) ?_
    refine sq 3 rfl rfl (Y_assign (v := .bool r_2) rfl rfl) ?_
    refine sq 4 rfl rfl (Y_assign (v := .bool r_3) rfl rfl) ?_
    refine rw_nil ?_
    refine cw_seq ?_
    refine cw_region ?_
    refine sq 23 rfl rfl (Y_move (v := .bool r_3) rfl rfl) ?_
    refine sq 24 rfl rfl (Y_move (v := .bool r_3) rfl rfl) ?_
    refine sgq 25 (B := r_3) (v := .bool r_2) rfl rfl (wt_t (gd_of (t := 24) (by kernel_rfl) rfl)) (fun hg6 => (Y_move (v := .bool r_2) rfl rfl)) ?_
    refine sq 26 rfl rfl (Y_and (b := r_3) (z := r_2) rfl rfl rfl rfl) ?_
    refine sq 2 rfl rfl (Y_assign (v := .bool (r_3 && r_2)) rfl rfl) ?_
    refine rw_nil ?_
    refine cw_ret ?_
    obtain rfl := some_inj hF2
    exact ret1 Try.results47 (v1 := .bool (r_3 && r_2)) (resAt_tmp rfl) ⟨rfl, (ST.subR (R' := []) (hS3.sel [] rfl rfl) (fun _ h => by cases h))⟩

theorem c_laws_FnExactIsOneQubit (aM : TMatrix) (B : Option Addr) (c n : Nat) (w0 : World) (hn : aM.Cells.length = n) (hS : ST w0 [] w0 [] [⟨B, (aM.Cells.flatMap enc_Dyadic)⟩]) {r_ : Bool} (hF : F_laws_FnExactIsOneQubit aM = some r_) :
    CV Try.prog 10 #[.agg #[.int .i64 aM.Rows, .int .i64 aM.Cols, .slice B n c]] w0 (fun v w' => v = .bool r_ ∧ ST w0 [] w' [] []) := by
  subst hn
  unfold F_laws_FnExactIsOneQubit at hF
  refine cv_of_cw 27 Try.func10 rfl Try.ntmps10 rfl ?_
  refine cw_seq ?_
  refine cw_region ?_
  refine ss 1 rfl rfl (Ys_box (T := 58) (v := .agg #[.int .i64 aM.Rows, .int .i64 aM.Cols, .slice B aM.Cells.length c]) (cs := [.int .i64 aM.Rows, .int .i64 aM.Cols, .slice B aM.Cells.length c]) (m := 3) hS rfl rfl rfl rfl) ?_
  rintro _ w_ ⟨b, rfl, hS1⟩
  refine sq 2 rfl rfl (Y_assign (v := .bool false) rfl rfl) ?_
  refine rw_nil ?_
  refine cw_seq ?_
  refine cw_region ?_
  refine sq 3 rfl rfl (Y_assign (v := .int .i64 1048576) rfl rfl) ?_
  refine rw_nil ?_
  refine cw_seq ?_
  refine cw_region ?_
  refine sq 7 rfl rfl (Y_loadA (B := some ⟨b, 0, none⟩) (i := 0) (cs := [.int .i64 aM.Rows, .int .i64 aM.Cols, .slice B aM.Cells.length c]) (vs := [.int .i64 aM.Rows, .int .i64 aM.Cols, .slice B aM.Cells.length c]) k_ag_58 k_sz_58_3 rfl rfl (hS1.cf (i := 0) rfl) rfl rfl) ?_
  refine sq 8 rfl rfl (Y_move (v := .int .i64 1048576) rfl rfl) ?_
  obtain ⟨r_1, hc, hF⟩ := bind_inv hF
  refine sc 9 rfl rfl (Yc_func (g := 34) (vs := [.agg #[.int .i64 aM.Rows, .int .i64 aM.Cols, .slice B aM.Cells.length c], .int .i64 1048576]) k_call_34 rfl (mc rfl (mc rfl mn)) (c_laws_szMatrix aM 1048576 B c aM.Cells.length _ rfl (hS1.inn0 [(true, 0)] rfl) hc)) ?_
  rintro _ w_1 ⟨rfl, hd⟩
  have hS2 := hS1.out00 hd
  refine sq 3 rfl rfl (Y_assign (v := .int .i64 r_1) rfl rfl) ?_
  refine rw_nil ?_
  refine cw_seq ?_
  refine cw_seq ?_
  refine cw_region ?_
  refine sq 10 rfl rfl (Y_move (v := .int .i64 r_1) rfl rfl) ?_
  refine sq 11 rfl rfl (Y_lt (k := .i64) (a := r_1) (b := 0) rfl rfl rfl) ?_
  refine rw_nil ?_
  refine cw_cond (b := (decide (r_1 < 0))) rfl (fun hb => ?_) (fun hb => ?_)
  · skip
    have hF1 := ct hF hb
    refine cw_seq ?_
    refine cw_region ?_
    refine sq 2 rfl rfl (Y_assign (v := .bool true) rfl rfl) ?_
    refine rw_nil ?_
    refine cw_ret ?_
    obtain rfl := some_inj hF1
    exact ret1 Try.results10 (v1 := .bool true) (resAt_tmp rfl) ⟨rfl, (ST.subR (R' := []) (hS2.sel [] rfl rfl) (fun _ h => by cases h))⟩
  · skip
    have hF2 := cf' hF hb
    refine cw_skip ?_
    refine cw_seq ?_
    refine cw_region ?_
    refine sq 12 rfl rfl (Y_loadA (B := some ⟨b, 0, none⟩) (i := 0) (cs := [.int .i64 aM.Rows, .int .i64 aM.Cols, .slice B aM.Cells.length c]) (vs := [.int .i64 aM.Rows, .int .i64 aM.Cols, .slice B aM.Cells.length c]) k_ag_58 k_sz_58_3 rfl rfl (hS2.cf (i := 0) rfl) rfl rfl) ?_
    obtain ⟨r_2, hc1, hF2⟩ := bind_inv hF2
    refine sc 13 rfl rfl (Yc_func (g := 36) (vs := [.agg #[.int .i64 aM.Rows, .int .i64 aM.Cols, .slice B aM.Cells.length c]]) k_call_36 rfl (mc rfl mn) (c_laws_toMatrix aM B c aM.Cells.length _ rfl (hS2.inn0 [(true, 0)] rfl) hc1)) ?_
    rintro _ w_2 ⟨B1, c1, rfl, hd1⟩
    have hS3 := hS2.out0 hd1
    have hS3 : ST w0 [] _ [⟨some ⟨b, 0, none⟩, 58, [.int .i64 aM.Rows, .int .i64 aM.Cols, .slice B aM.Cells.length c], 3⟩, ⟨B1, 91, (r_2.Cells.flatMap enc_Dyadic), c1 * 5⟩] [⟨B, (aM.Cells.flatMap enc_Dyadic)⟩] := hS3
    obtain ⟨r_3, hc2, hF2⟩ := bind_inv hF2
    refine sc 14 rfl rfl (Yc_func (g := 46) (vs := [.agg #[.int .i64 r_2.Rows, .int .i64 r_2.Cols, .slice B1 r_2.Cells.length c1]]) k_call_46 rfl (mc rfl mn) (c_spec_IsOneQubit r_2 B1 c1 r_2.Cells.length _ rfl (hS3.inn0 [(false, 1)] rfl) hc2)) ?_
    rintro _ w_3 ⟨rfl, hd2⟩
    have hS4 := hS3.out00 hd2
    have hS4 : ST w0 [] _ [⟨some ⟨b, 0, none⟩, 58, [.int .i64 aM.Rows, .int .i64 aM.Cols, .slice B aM.Cells.length c], 3⟩, ⟨B1, 91, (r_2.Cells.flatMap enc_Dyadic), c1 * 5⟩] [⟨B, (aM.Cells.flatMap enc_Dyadic)⟩] := hS4
    refine sq 4 rfl rfl (Y_assign (v := .bool r_3) rfl rfl) ?_
    refine rw_nil ?_
    refine cw_seq ?_
    refine cw_region ?_
    refine sq 15 rfl rfl (Y_loadA (B := some ⟨b, 0, none⟩) (i := 0) (cs := [.int .i64 aM.Rows, .int .i64 aM.Cols, .slice B aM.Cells.length c]) (vs := [.int .i64 aM.Rows, .int .i64 aM.Cols, .slice B aM.Cells.length c]) k_ag_58 k_sz_58_3 rfl rfl (hS4.cf (i := 0) rfl) rfl rfl) ?_
    obtain ⟨r_4, hc3, hF2⟩ := bind_inv hF2
    refine sc 16 rfl rfl (Yc_func (g := 36) (vs := [.agg #[.int .i64 aM.Rows, .int .i64 aM.Cols, .slice B aM.Cells.length c]]) k_call_36 rfl (mc rfl mn) (c_laws_toMatrix aM B c aM.Cells.length _ rfl (hS4.inn0 [(true, 0)] rfl) hc3)) ?_
    rintro _ w_4 ⟨B2, c2, rfl, hd3⟩
    have hS5 := hS4.out0 hd3
    have hS5 : ST w0 [] _ [⟨some ⟨b, 0, none⟩, 58, [.int .i64 aM.Rows, .int .i64 aM.Cols, .slice B aM.Cells.length c], 3⟩, ⟨B1, 91, (r_2.Cells.flatMap enc_Dyadic), c1 * 5⟩, ⟨B2, 91, (r_4.Cells.flatMap enc_Dyadic), c2 * 5⟩] [⟨B, (aM.Cells.flatMap enc_Dyadic)⟩] := hS5
    refine ss 5 rfl rfl (Ys_alloc (T := 62) (cs := [.int .i64 0, .int .i64 0, .slice none 0 0]) (m := 3) hS5 k_zero_62 rfl rfl rfl) ?_
    rintro _ w_5 ⟨b1, rfl, hS6⟩
    have hS6 : ST w0 [] _ [⟨some ⟨b, 0, none⟩, 58, [.int .i64 aM.Rows, .int .i64 aM.Cols, .slice B aM.Cells.length c], 3⟩, ⟨B1, 91, (r_2.Cells.flatMap enc_Dyadic), c1 * 5⟩, ⟨B2, 91, (r_4.Cells.flatMap enc_Dyadic), c2 * 5⟩, ⟨some ⟨b1, 0, none⟩, 62, [.int .i64 0, .int .i64 0, .slice none 0 0], 3⟩] [⟨B, (aM.Cells.flatMap enc_Dyadic)⟩] := hS6
    refine ss0 rfl rfl (Ys_store (i := 3) (s := 3) (B := some ⟨b1, 0, none⟩) (T' := 62) (v := .agg #[.int .i64 r_4.Rows, .int .i64 r_4.Cols, .slice B2 r_4.Cells.length c2]) (vs := [.int .i64 r_4.Rows, .int .i64 r_4.Cols, .slice B2 r_4.Cells.length c2]) (k := 0) (cs' := [.int .i64 r_4.Rows, .int .i64 r_4.Cols, .slice B2 r_4.Cells.length c2]) hS6 k_sz_62_3 rfl rfl rfl rfl rfl rfl rfl (Nat.le_of_ble_eq_true rfl) rfl rfl) ?_
    rintro _ w_6 ⟨rfl, hS7⟩
    have hS7 : ST w0 [] _ [⟨some ⟨b, 0, none⟩, 58, [.int .i64 aM.Rows, .int .i64 aM.Cols, .slice B aM.Cells.length c], 3⟩, ⟨B1, 91, (r_2.Cells.flatMap enc_Dyadic), c1 * 5⟩, ⟨B2, 91, (r_4.Cells.flatMap enc_Dyadic), c2 * 5⟩, ⟨some ⟨b1, 0, none⟩, 62, [.int .i64 r_4.Rows, .int .i64 r_4.Cols, .slice B2 r_4.Cells.length c2], 3⟩] [⟨B, (aM.Cells.flatMap enc_Dyadic)⟩] := hS7
    refine rw_nil ?_
    refine cw_seq ?_
    refine cw_region ?_
    refine sq 17 rfl rfl (Y_loadA (B := some ⟨b1, 0, none⟩) (i := 0) (cs := [.int .i64 r_4.Rows, .int .i64 r_4.Cols, .slice B2 r_4.Cells.length c2]) (vs := [.int .i64 r_4.Rows, .int .i64 r_4.Cols, .slice B2 r_4.Cells.length c2]) k_ag_62 k_sz_62_3 rfl rfl (hS7.cf (i := 3) rfl) rfl rfl) ?_
    obtain ⟨r_5, hc4, hF2⟩ := bind_inv hF2
    refine sc 18 rfl rfl (Yc_func (g := 47) (vs := [.agg #[.int .i64 r_4.Rows, .int .i64 r_4.Cols, .slice B2 r_4.Cells.length c2]]) k_call_47 rfl (mc rfl mn) (c_impl_IsOneQubit r_4 B2 c2 r_4.Cells.length _ rfl (hS7.inn0 [(false, 2)] rfl) hc4)) ?_
    rintro _ w_7 ⟨rfl, hd4⟩
    have hS8 := hS7.out00 hd4
    have hS8 : ST w0 [] _ [⟨some ⟨b, 0, none⟩, 58, [.int .i64 aM.Rows, .int .i64 aM.Cols, .slice B aM.Cells.length c], 3⟩, ⟨B1, 91, (r_2.Cells.flatMap enc_Dyadic), c1 * 5⟩, ⟨B2, 91, (r_4.Cells.flatMap enc_Dyadic), c2 * 5⟩, ⟨some ⟨b1, 0, none⟩, 62, [.int .i64 r_4.Rows, .int .i64 r_4.Cols, .slice B2 r_4.Cells.length c2], 3⟩] [⟨B, (aM.Cells.flatMap enc_Dyadic)⟩] := hS8
    refine sq 6 rfl rfl (Y_assign (v := .bool r_5) rfl rfl) ?_
    refine rw_nil ?_
    refine cw_seq ?_
    refine cw_seq ?_
    refine cw_region ?_
    refine sq 19 rfl rfl (Y_move (v := .bool r_5) rfl rfl) ?_
    refine sq 20 rfl rfl (Y_move (v := .bool r_3) rfl rfl) ?_
    refine sq 21 rfl rfl (Y_bne (p := r_5) (q := r_3) k_und_4 rfl rfl rfl) ?_
    refine rw_nil ?_
    refine cw_cond (b := (!(r_5 == r_3))) rfl (fun hb1 => ?_) (fun hb1 => ?_)
    · skip
      have hF3 := ct hF2 hb1
      refine cw_seq ?_
      refine cw_region ?_
      refine sq 2 rfl rfl (Y_assign (v := .bool false) rfl rfl) ?_
      refine rw_nil ?_
      refine cw_ret ?_
      obtain rfl := some_inj hF3
      exact ret1 Try.results10 (v1 := .bool false) (resAt_tmp rfl) ⟨rfl, (ST.subR (R' := []) (hS8.sel [] rfl rfl) (fun _ h => by cases h))⟩
    · skip
      have hF4 := cf' hF2 hb1
      refine cw_skip ?_
      refine cw_seq ?_
      refine cw_seq ?_
      obtain ⟨r_6, hc5, hF4⟩ := bind_inv hF4
      obtain ⟨r_7, hc6, hF4⟩ := bind_inv hF4
      refine ra_start (ST.sel hS8 [0, 1, 2, 3] rfl rfl).fn (by kernel_rfl) ?_
      have hS11 := hS8.drew
      refine ra_q 0 22 (v := .agg #[.int .i64 r_4.Rows, .int .i64 r_4.Cols, .slice B2 r_4.Cells.length c2]) rfl rfl rfl (by kernel_rfl) (by kernel_rfl) (by kernel_rfl) (ST.sel hS11 [0, 1, 2, 3] rfl rfl) (fun w' hw' => (Y_loadA (B := some ⟨b1, 0, none⟩) (i := 0) (cs := [.int .i64 r_4.Rows, .int .i64 r_4.Cols, .slice B2 r_4.Cells.length c2]) (vs := [.int .i64 r_4.Rows, .int .i64 r_4.Cols, .slice B2 r_4.Cells.length c2]) k_ag_62 k_sz_62_3 rfl rfl (ST.cf hw' (i := 3) rfl) rfl rfl)) ?_
      refine ra_q 1 23 (v := .agg #[.int .i64 aM.Rows, .int .i64 aM.Cols, .slice B aM.Cells.length c]) rfl rfl rfl (by kernel_rfl) (by kernel_rfl) (by kernel_rfl) (ST.sel hS11 [0, 1, 2, 3] rfl rfl) (fun w' hw' => (Y_loadA (B := some ⟨b, 0, none⟩) (i := 0) (cs := [.int .i64 aM.Rows, .int .i64 aM.Cols, .slice B aM.Cells.length c]) (vs := [.int .i64 aM.Rows, .int .i64 aM.Cols, .slice B aM.Cells.length c]) k_ag_58 k_sz_58_3 rfl rfl (ST.cf hw' (i := 0) rfl) rfl rfl)) ?_
      refine ra_all (rs := [2]) (by kernel_rfl) rfl ?_
      refine ra_c 24 (i := 2) rfl rfl rfl (Yc_func (g := 36) (vs := [.agg #[.int .i64 aM.Rows, .int .i64 aM.Cols, .slice B aM.Cells.length c]]) k_call_36 rfl (mc rfl mn) (c_laws_toMatrix aM B c aM.Cells.length _ rfl (hS11.inn0 [(true, 0)] rfl) hc5)) ?_ ?_
      · rintro _ w_8 ⟨B3, c3, rfl, hd5⟩
        have hS12 := hS11.out0 hd5
        have hS12 : ST w0 [] _ [⟨some ⟨b, 0, none⟩, 58, [.int .i64 aM.Rows, .int .i64 aM.Cols, .slice B aM.Cells.length c], 3⟩, ⟨B1, 91, (r_2.Cells.flatMap enc_Dyadic), c1 * 5⟩, ⟨B2, 91, (r_4.Cells.flatMap enc_Dyadic), c2 * 5⟩, ⟨some ⟨b1, 0, none⟩, 62, [.int .i64 r_4.Rows, .int .i64 r_4.Cols, .slice B2 r_4.Cells.length c2], 3⟩, ⟨B3, 91, (r_6.Cells.flatMap enc_Dyadic), c3 * 5⟩] [⟨B, (aM.Cells.flatMap enc_Dyadic)⟩] := hS12
        refine ⟨(ST.sel hS12 [0, 1, 2, 3] rfl rfl), ?_⟩
        refine ra_all (rs := [3]) (by kernel_rfl) rfl ?_
        refine ra_c 25 (i := 3) rfl rfl rfl (Yc_func (g := 38) (vs := [.agg #[.int .i64 r_4.Rows, .int .i64 r_4.Cols, .slice B2 r_4.Cells.length c2], .agg #[.int .i64 r_6.Rows, .int .i64 r_6.Cols, .slice B3 r_6.Cells.length c3]]) k_call_38 rfl (mc rfl (mc rfl mn)) (c_laws_eqMatrix r_4 r_6 B2 c2 r_4.Cells.length B3 c3 r_6.Cells.length _ rfl rfl (hS12.inn0 [(false, 2), (false, 4)] rfl) hc6)) ?_ ?_
        · rintro _ w_9 ⟨rfl, hd6⟩
          have hS13 := hS12.out00 hd6
          have hS13 : ST w0 [] _ [⟨some ⟨b, 0, none⟩, 58, [.int .i64 aM.Rows, .int .i64 aM.Cols, .slice B aM.Cells.length c], 3⟩, ⟨B1, 91, (r_2.Cells.flatMap enc_Dyadic), c1 * 5⟩, ⟨B2, 91, (r_4.Cells.flatMap enc_Dyadic), c2 * 5⟩, ⟨some ⟨b1, 0, none⟩, 62, [.int .i64 r_4.Rows, .int .i64 r_4.Cols, .slice B2 r_4.Cells.length c2], 3⟩, ⟨B3, 91, (r_6.Cells.flatMap enc_Dyadic), c3 * 5⟩] [⟨B, (aM.Cells.flatMap enc_Dyadic)⟩] := hS13
          refine ⟨(ST.sel hS13 [0, 1, 2, 3] rfl rfl), ?_⟩
          refine ra_q 4 26 (v := .bool (!r_7)) rfl rfl rfl (by kernel_rfl) (by kernel_rfl) (by kernel_rfl) (ST.sel hS13 [0, 1, 2, 3] rfl rfl) (fun w' hw' => (Y_not (p := r_7) rfl rfl)) ?_
          refine ra_done (by kernel_rfl) ?_
          refine cw_cond (b := (!r_7)) rfl (fun hb2 => ?_) (fun hb2 => ?_)
          · skip
            have hF5 := ct hF4 hb2
            refine cw_seq ?_
            refine cw_region ?_
            refine sq 2 rfl rfl (Y_assign (v := .bool false) rfl rfl) ?_
            refine rw_nil ?_
            refine cw_ret ?_
            obtain rfl := some_inj hF5
            exact ret1 Try.results10 (v1 := .bool false) (resAt_tmp rfl) ⟨rfl, (ST.subR (R' := []) (hS13.sel [] rfl rfl) (fun _ h => by cases h))⟩
          · skip
            have hF6 := cf' hF4 hb2
            refine cw_skip ?_
            refine cw_seq ?_
            refine cw_region ?_
            refine sq 2 rfl rfl (Y_assign (v := .bool true) rfl rfl) ?_
            refine rw_nil ?_
            refine cw_ret ?_
            obtain rfl := some_inj hF6
            exact ret1 Try.results10 (v1 := .bool true) (resAt_tmp rfl) ⟨rfl, (ST.subR (R' := []) (hS13.sel [] rfl rfl) (fun _ h => by cases h))⟩
        exact allR_nil
      exact allR_nil
end Go.VK
