/- Walks: each Go function returns what its Lean function says. By program. -/
import Derived.Test.YtoladcammhboiaaDoorCliffordWordFa
import Derived.Test.YtoladcammhboiaaDoorCliffordWordW4
set_option linter.unusedVariables false
set_option maxRecDepth 100000
set_option maxHeartbeats 1000000
namespace Go.VK
open Go.RowKit
open Go.Proofs
open Go.IntKind
attribute [local irreducible] CW RW RA CV Y Yw Yc Ys RetOf
attribute [local irreducible] F_spec_l1In F_spec_l1All F_spec_l1Good F_spec_l2C_ring F_spec_l1Root F_spec_l1Even F_spec_l1Half F_spec_l2Low F_spec_l1Add F_spec_l2C_add F_spec_l1Mul F_spec_l2C_mul F_spec_l2C_times F_spec_l1Turn F_spec_l2Power F_spec_l1Neg F_spec_l2Neg F_spec_l6One F_spec_l9Pauli F_spec_l1Conj F_spec_l2Conj F_spec_l3Adj F_spec_l9Bloch F_spec_l6Bit F_spec_l6Cell F_spec_l6Gate F_spec_l2C_run F_spec_l3Unit F_spec_l6Op F_spec_l9Word F_spec_l9Same F_spec_l9Words F_spec_CliffordWord F_impl_whole F_impl_small F_impl_within F_impl_isTwo F_impl_IsValidGate F_impl_isDim F_impl_matrixOf F_impl_isCoef F_impl_IsValidRing F_impl_MulOmega F_impl_phase F_impl_bitOf F_impl_flipped F_impl_comesFrom F_impl_entry F_impl_GateMatrix_1 F_impl_GateMatrix F_slices_IndexFunc_impl_Dyadic_impl_Dyadic F_slices_ContainsFunc_impl_Dyadic_impl_Dyadic F_impl_isEven F_impl_IsValidDyadic F_impl_IsValidMatrix_1 F_impl_IsValidMatrix F_impl_ringIf F_impl_Conjugate F_impl_ConjDyadic F_impl_Matrix_at F_impl_Adjoint_1 F_impl_Adjoint F_impl_MulRing F_impl_DivRootTwo F_impl_DyadicOf F_impl_MulDyadic F_impl_MulRootTwo F_impl_raised F_impl_combined F_impl_AddRing F_impl_AddDyadic F_impl_MulMatrix_1 F_impl_MulMatrix F_impl_IdentityMatrix_1 F_impl_IdentityMatrix F_slices_Equal_impl_Dyadic_impl_Dyadic F_impl_EqualMatrices F_impl_IsUnitary F_impl_IsOneQubit F_impl_TraceOf F_impl_blochCell F_impl_BlochOf F_impl_blochGate F_impl_mulBloch F_slices_IndexFunc_SSimpl_Dyadic_impl_Dyadic F_slices_ContainsFunc_SSimpl_Dyadic_impl_Dyadic F_impl_cliffordList_1 F_impl_cliffordList F_impl_CliffordWord F_laws_FnExactCliffordWord
theorem c_impl_blochCell (m : TMatrix) (bar : TMatrix) (i : Int) (j : Int) (B : Option Addr) (c n : Nat) (B1 : Option Addr) (c1 n1 : Nat) (w0 : World) (hn : m.Cells.length = n) (hn1 : bar.Cells.length = n1) (hS : ST w0 [] w0 [] [⟨B, (m.Cells.flatMap eN0)⟩, ⟨B1, (bar.Cells.flatMap eN0)⟩, ⟨(aD 0), [vi 1, vi 0, vi 0, vi 0, vi 2]⟩]) {r_ : TDyadic} {r_1 : Bool} (hF : F_impl_blochCell m bar i j = some (r_, r_1)) :
  CV Tryd.prog 51 #[.agg #[vi m.Rows, vi m.Cols, .slice B n c], .agg #[vi bar.Rows, vi bar.Cols, .slice B1 n1 c1], vi i, vi j] w0 (fun v w' => v = .tuple #[.agg #[vi r_.Num.A, vi r_.Num.B, vi r_.Num.C, vi r_.Num.D, vi r_.Exp], .bool r_1] ∧ ST w0 [] w' [] []) := by
 subst hn
 subst hn1
 unfold F_impl_blochCell at hF
 refine cv_of_cw 83 Tryd.func51 rfl Tryd.ntmps51 rfl ?_
 refine cw_seq ?_
 refine cw_region ?_
 refine ss 4 rfl rfl (Ys_box (T := 38) (v := .agg #[vi m.Rows, vi m.Cols, .slice B m.Cells.length c]) (cs := [vi m.Rows, vi m.Cols, .slice B m.Cells.length c]) (m := 3) hS rfl rfl rfl rfl) ?_
 rintro _ w_ ⟨b, rfl, hS1⟩
 refine ss 5 rfl rfl (Ys_box (T := 38) (v := .agg #[vi bar.Rows, vi bar.Cols, .slice B1 bar.Cells.length c1]) (cs := [vi bar.Rows, vi bar.Cols, .slice B1 bar.Cells.length c1]) (m := 3) hS1 rfl rfl rfl rfl) ?_
 rintro _ w_1 ⟨b1, rfl, hS2⟩
 have hS2 : ST w0 [] _ [⟨aD b, 38, [vi m.Rows, vi m.Cols, .slice B m.Cells.length c], 3⟩, ⟨aD b1, 38, [vi bar.Rows, vi bar.Cols, .slice B1 bar.Cells.length c1], 3⟩] [⟨B, (m.Cells.flatMap eN0)⟩, ⟨B1, (bar.Cells.flatMap eN0)⟩, ⟨(aD 0), [vi 1, vi 0, vi 0, vi 0, vi 2]⟩] := hS2
 refine ss 8 rfl rfl (Ys_alloc (T := 44) (cs := [vi 0, vi 0, vi 0, vi 0, vi 0]) (m := 5) hS2 k_zero_44 rfl rfl rfl) ?_
 rintro _ w_2 ⟨b2, rfl, hS3⟩
 have hS3 : ST w0 [] _ [⟨aD b, 38, [vi m.Rows, vi m.Cols, .slice B m.Cells.length c], 3⟩, ⟨aD b1, 38, [vi bar.Rows, vi bar.Cols, .slice B1 bar.Cells.length c1], 3⟩, ⟨aD b2, 44, [vi 0, vi 0, vi 0, vi 0, vi 0], 5⟩] [⟨B, (m.Cells.flatMap eN0)⟩, ⟨B1, (bar.Cells.flatMap eN0)⟩, ⟨(aD 0), [vi 1, vi 0, vi 0, vi 0, vi 2]⟩] := hS3
 refine sq 9 rfl rfl (Y_assign (v := .bool false) rfl rfl) ?_
 refine rw_nil ?_
 refine cw_seq ?_
 refine cw_region ?_
 refine sq 23 rfl rfl (show Y _ _ _ _ _ (.agg (([2, 3, 4] : List Int).flatMap encI).toArray) from Y_buildA (zs := [vi 0, vi 0, vi 0]) (vs := [(0, vi 2), (1, vi 3), (2, vi 4)]) (cs := [vi 2, vi 3, vi 4]) k_ar_101_3_3 k_sz_3_1 k_zero_101 rfl (mpc rfl (mpc rfl (mpc rfl mpn))) (by kernel_rfl)) ?_
 refine ss 10 rfl rfl (Ys_alloc (T := 101) (cs := ((List.replicate 3 0).flatMap encI)) (m := 3) hS3 k_zero_101 rfl rfl rfl) ?_
 rintro _ w_3 ⟨b3, rfl, hS4⟩
 have hS4 : ST w0 [] _ [⟨aD b, 38, [vi m.Rows, vi m.Cols, .slice B m.Cells.length c], 3⟩, ⟨aD b1, 38, [vi bar.Rows, vi bar.Cols, .slice B1 bar.Cells.length c1], 3⟩, ⟨aD b2, 44, [vi 0, vi 0, vi 0, vi 0, vi 0], 5⟩, ⟨aD b3, 101, ((List.replicate 3 0).flatMap encI), 3⟩] [⟨B, (m.Cells.flatMap eN0)⟩, ⟨B1, (bar.Cells.flatMap eN0)⟩, ⟨(aD 0), [vi 1, vi 0, vi 0, vi 0, vi 2]⟩] := hS4
 refine ss0 rfl rfl (Ys_store (i := 3) (s := 3) (B := aD b3) (T' := 101) (v := .agg (([2, 3, 4] : List Int).flatMap encI).toArray) (vs := (([2, 3, 4] : List Int).flatMap encI)) (k := 0) (cs' := (([2, 3, 4] : List Int).flatMap encI)) hS4 k_sz_101_3 rfl rfl rfl rfl (fm_lenn2 encI_len rfl rfl) (fm_one' encI_one _) rfl (fm_fit encI_len (List.length_replicate (n := 3)) rfl) (fm_spl encI_len (List.length_replicate (n := 3)) rfl) rfl) ?_
 rintro _ w_4 ⟨rfl, hS5⟩
 have hS5 : ST w0 [] _ [⟨aD b, 38, [vi m.Rows, vi m.Cols, .slice B m.Cells.length c], 3⟩, ⟨aD b1, 38, [vi bar.Rows, vi bar.Cols, .slice B1 bar.Cells.length c1], 3⟩, ⟨aD b2, 44, [vi 0, vi 0, vi 0, vi 0, vi 0], 5⟩, ⟨aD b3, 101, (([2, 3, 4] : List Int).flatMap encI), 3⟩] [⟨B, (m.Cells.flatMap eN0)⟩, ⟨B1, (bar.Cells.flatMap eN0)⟩, ⟨(aD 0), [vi 1, vi 0, vi 0, vi 0, vi 2]⟩] := hS5
 refine rw_nil ?_
 refine cw_seq ?_
 refine cw_region ?_
 refine sq 25 rfl rfl (Y_move (v := vi i) rfl rfl) ?_
 obtain ⟨x, hx, hF⟩ := bind_inv hF
 refine sq 26 rfl rfl (Y_indexArr0 (B := aD b3) (k := .i64) (i := i) k_ar_101_3_3 k_sz_3_1 rfl rfl rfl (getI_nn hx) (getI_ltI hx rfl)) ?_
 refine sq 27 rfl rfl (Y_load1 (B := aD b3) (i := i.toNat * 1) (cs := (([2, 3, 4] : List Int).flatMap encI)) (v := vi x) k_sc_3 rfl rfl (hS5.cf (i := 3) rfl) (gi_at0 encI_len hx rfl)) ?_
 refine sq 28 rfl rfl (Y_buildS (zs := [vi 0, vi 0, vi 0]) (vs := [(0, vi x)]) (cs := [vi x, vi 0, vi 0]) k_pl_64 k_zero_64 rfl (mpc rfl mpn) rfl) ?_
 obtain ⟨⟨r_2, r_3⟩, hc, hF⟩ := bind_inv hF
 refine sc 29 rfl rfl (Yc_func (g := 26) (vs := [vi 1, .agg #[vi x, vi 0, vi 0]]) k_call_26 rfl (mc rfl (mc rfl mn)) (c_impl_GateMatrix 1 (TGate.mk x 0 0) _  (hS5.inn0 [] rfl) hc)) ?_
 rintro _ w_5 ⟨B2, c2, rfl, hd⟩
 have hS6 := hS5.out0 hd
 have hS6 : ST w0 [] _ [⟨aD b, 38, [vi m.Rows, vi m.Cols, .slice B m.Cells.length c], 3⟩, ⟨aD b1, 38, [vi bar.Rows, vi bar.Cols, .slice B1 bar.Cells.length c1], 3⟩, ⟨aD b2, 44, [vi 0, vi 0, vi 0, vi 0, vi 0], 5⟩, ⟨aD b3, 101, (([2, 3, 4] : List Int).flatMap encI), 3⟩, ⟨B2, 44, (r_2.Cells.flatMap eN0), c2 * 5⟩] [⟨B, (m.Cells.flatMap eN0)⟩, ⟨B1, (bar.Cells.flatMap eN0)⟩, ⟨(aD 0), [vi 1, vi 0, vi 0, vi 0, vi 2]⟩] := hS6
 refine sq 24 rfl rfl (Y_move (v := .tuple #[.agg #[vi r_2.Rows, vi r_2.Cols, .slice B2 r_2.Cells.length c2], .bool r_3]) rfl rfl) ?_
 refine sq 30 rfl rfl (Y_extract (v := .agg #[vi r_2.Rows, vi r_2.Cols, .slice B2 r_2.Cells.length c2]) rfl rfl rfl) ?_
 refine sq 31 rfl rfl (Y_extract (v := .bool r_3) rfl rfl rfl) ?_
 refine ss 11 rfl rfl (Ys_alloc (T := 38) (cs := [vi 0, vi 0, .slice none 0 0]) (m := 3) hS6 k_zero_38 rfl rfl rfl) ?_
 rintro _ w_6 ⟨b4, rfl, hS7⟩
 have hS7 : ST w0 [] _ [⟨aD b, 38, [vi m.Rows, vi m.Cols, .slice B m.Cells.length c], 3⟩, ⟨aD b1, 38, [vi bar.Rows, vi bar.Cols, .slice B1 bar.Cells.length c1], 3⟩, ⟨aD b2, 44, [vi 0, vi 0, vi 0, vi 0, vi 0], 5⟩, ⟨aD b3, 101, (([2, 3, 4] : List Int).flatMap encI), 3⟩, ⟨B2, 44, (r_2.Cells.flatMap eN0), c2 * 5⟩, ⟨aD b4, 38, [vi 0, vi 0, .slice none 0 0], 3⟩] [⟨B, (m.Cells.flatMap eN0)⟩, ⟨B1, (bar.Cells.flatMap eN0)⟩, ⟨(aD 0), [vi 1, vi 0, vi 0, vi 0, vi 2]⟩] := hS7
 refine ss0 rfl rfl (Ys_store (i := 5) (s := 3) (B := aD b4) (T' := 38) (v := .agg #[vi r_2.Rows, vi r_2.Cols, .slice B2 r_2.Cells.length c2]) (vs := [vi r_2.Rows, vi r_2.Cols, .slice B2 r_2.Cells.length c2]) (k := 0) (cs' := [vi r_2.Rows, vi r_2.Cols, .slice B2 r_2.Cells.length c2]) hS7 k_sz_38_3 rfl rfl rfl rfl rfl rfl rfl (Nat.le_of_ble_eq_true rfl) rfl rfl) ?_
 rintro _ w_7 ⟨rfl, hS8⟩
 have hS8 : ST w0 [] _ [⟨aD b, 38, [vi m.Rows, vi m.Cols, .slice B m.Cells.length c], 3⟩, ⟨aD b1, 38, [vi bar.Rows, vi bar.Cols, .slice B1 bar.Cells.length c1], 3⟩, ⟨aD b2, 44, [vi 0, vi 0, vi 0, vi 0, vi 0], 5⟩, ⟨aD b3, 101, (([2, 3, 4] : List Int).flatMap encI), 3⟩, ⟨B2, 44, (r_2.Cells.flatMap eN0), c2 * 5⟩, ⟨aD b4, 38, [vi r_2.Rows, vi r_2.Cols, .slice B2 r_2.Cells.length c2], 3⟩] [⟨B, (m.Cells.flatMap eN0)⟩, ⟨B1, (bar.Cells.flatMap eN0)⟩, ⟨(aD 0), [vi 1, vi 0, vi 0, vi 0, vi 2]⟩] := hS8
 refine sq 12 rfl rfl (Y_assign (v := .bool r_3) rfl rfl) ?_
 refine rw_nil ?_
 refine cw_seq ?_
 refine cw_region ?_
 refine sq 33 rfl rfl (Y_move (v := vi j) rfl rfl) ?_
 obtain ⟨x1, hx1, hF⟩ := bind_inv hF
 refine sq 34 rfl rfl (Y_indexArr0 (B := aD b3) (k := .i64) (i := j) k_ar_101_3_3 k_sz_3_1 rfl rfl rfl (getI_nn hx1) (getI_ltI hx1 rfl)) ?_
 refine sq 35 rfl rfl (Y_load1 (B := aD b3) (i := j.toNat * 1) (cs := (([2, 3, 4] : List Int).flatMap encI)) (v := vi x1) k_sc_3 rfl rfl (hS8.cf (i := 3) rfl) (gi_at0 encI_len hx1 rfl)) ?_
 refine sq 36 rfl rfl (Y_buildS (zs := [vi 0, vi 0, vi 0]) (vs := [(0, vi x1)]) (cs := [vi x1, vi 0, vi 0]) k_pl_64 k_zero_64 rfl (mpc rfl mpn) rfl) ?_
 obtain ⟨⟨r_4, r_5⟩, hc1, hF⟩ := bind_inv hF
 refine sc 37 rfl rfl (Yc_func (g := 26) (vs := [vi 1, .agg #[vi x1, vi 0, vi 0]]) k_call_26 rfl (mc rfl (mc rfl mn)) (c_impl_GateMatrix 1 (TGate.mk x1 0 0) _  (hS8.inn0 [] rfl) hc1)) ?_
 rintro _ w_8 ⟨B3, c3, rfl, hd1⟩
 have hS9 := hS8.out0 hd1
 have hS9 : ST w0 [] _ [⟨aD b, 38, [vi m.Rows, vi m.Cols, .slice B m.Cells.length c], 3⟩, ⟨aD b1, 38, [vi bar.Rows, vi bar.Cols, .slice B1 bar.Cells.length c1], 3⟩, ⟨aD b2, 44, [vi 0, vi 0, vi 0, vi 0, vi 0], 5⟩, ⟨aD b3, 101, (([2, 3, 4] : List Int).flatMap encI), 3⟩, ⟨B2, 44, (r_2.Cells.flatMap eN0), c2 * 5⟩, ⟨aD b4, 38, [vi r_2.Rows, vi r_2.Cols, .slice B2 r_2.Cells.length c2], 3⟩, ⟨B3, 44, (r_4.Cells.flatMap eN0), c3 * 5⟩] [⟨B, (m.Cells.flatMap eN0)⟩, ⟨B1, (bar.Cells.flatMap eN0)⟩, ⟨(aD 0), [vi 1, vi 0, vi 0, vi 0, vi 2]⟩] := hS9
 refine sq 32 rfl rfl (Y_move (v := .tuple #[.agg #[vi r_4.Rows, vi r_4.Cols, .slice B3 r_4.Cells.length c3], .bool r_5]) rfl rfl) ?_
 refine sq 38 rfl rfl (Y_extract (v := .agg #[vi r_4.Rows, vi r_4.Cols, .slice B3 r_4.Cells.length c3]) rfl rfl rfl) ?_
 refine sq 39 rfl rfl (Y_extract (v := .bool r_5) rfl rfl rfl) ?_
 refine ss 13 rfl rfl (Ys_alloc (T := 38) (cs := [vi 0, vi 0, .slice none 0 0]) (m := 3) hS9 k_zero_38 rfl rfl rfl) ?_
 rintro _ w_9 ⟨b5, rfl, hS10⟩
 have hS10 : ST w0 [] _ [⟨aD b, 38, [vi m.Rows, vi m.Cols, .slice B m.Cells.length c], 3⟩, ⟨aD b1, 38, [vi bar.Rows, vi bar.Cols, .slice B1 bar.Cells.length c1], 3⟩, ⟨aD b2, 44, [vi 0, vi 0, vi 0, vi 0, vi 0], 5⟩, ⟨aD b3, 101, (([2, 3, 4] : List Int).flatMap encI), 3⟩, ⟨B2, 44, (r_2.Cells.flatMap eN0), c2 * 5⟩, ⟨aD b4, 38, [vi r_2.Rows, vi r_2.Cols, .slice B2 r_2.Cells.length c2], 3⟩, ⟨B3, 44, (r_4.Cells.flatMap eN0), c3 * 5⟩, ⟨aD b5, 38, [vi 0, vi 0, .slice none 0 0], 3⟩] [⟨B, (m.Cells.flatMap eN0)⟩, ⟨B1, (bar.Cells.flatMap eN0)⟩, ⟨(aD 0), [vi 1, vi 0, vi 0, vi 0, vi 2]⟩] := hS10
 refine ss0 rfl rfl (Ys_store (i := 7) (s := 3) (B := aD b5) (T' := 38) (v := .agg #[vi r_4.Rows, vi r_4.Cols, .slice B3 r_4.Cells.length c3]) (vs := [vi r_4.Rows, vi r_4.Cols, .slice B3 r_4.Cells.length c3]) (k := 0) (cs' := [vi r_4.Rows, vi r_4.Cols, .slice B3 r_4.Cells.length c3]) hS10 k_sz_38_3 rfl rfl rfl rfl rfl rfl rfl (Nat.le_of_ble_eq_true rfl) rfl rfl) ?_
 rintro _ w_10 ⟨rfl, hS11⟩
 have hS11 : ST w0 [] _ [⟨aD b, 38, [vi m.Rows, vi m.Cols, .slice B m.Cells.length c], 3⟩, ⟨aD b1, 38, [vi bar.Rows, vi bar.Cols, .slice B1 bar.Cells.length c1], 3⟩, ⟨aD b2, 44, [vi 0, vi 0, vi 0, vi 0, vi 0], 5⟩, ⟨aD b3, 101, (([2, 3, 4] : List Int).flatMap encI), 3⟩, ⟨B2, 44, (r_2.Cells.flatMap eN0), c2 * 5⟩, ⟨aD b4, 38, [vi r_2.Rows, vi r_2.Cols, .slice B2 r_2.Cells.length c2], 3⟩, ⟨B3, 44, (r_4.Cells.flatMap eN0), c3 * 5⟩, ⟨aD b5, 38, [vi r_4.Rows, vi r_4.Cols, .slice B3 r_4.Cells.length c3], 3⟩] [⟨B, (m.Cells.flatMap eN0)⟩, ⟨B1, (bar.Cells.flatMap eN0)⟩, ⟨(aD 0), [vi 1, vi 0, vi 0, vi 0, vi 2]⟩] := hS11
 refine sq 14 rfl rfl (Y_assign (v := .bool r_5) rfl rfl) ?_
 refine rw_nil ?_
 refine cw_seq ?_
 refine cw_region ?_
 refine sq 41 rfl rfl (Y_loadA (B := aD b4) (i := 0) (cs := [vi r_2.Rows, vi r_2.Cols, .slice B2 r_2.Cells.length c2]) (vs := [vi r_2.Rows, vi r_2.Cols, .slice B2 r_2.Cells.length c2]) k_ag_38 k_sz_38_3 rfl rfl (hS11.cf (i := 5) rfl) rfl rfl) ?_
 refine sq 42 rfl rfl (Y_loadA (B := aD b) (i := 0) (cs := [vi m.Rows, vi m.Cols, .slice B m.Cells.length c]) (vs := [vi m.Rows, vi m.Cols, .slice B m.Cells.length c]) k_ag_38 k_sz_38_3 rfl rfl (hS11.cf (i := 0) rfl) rfl rfl) ?_
 obtain ⟨⟨r_6, r_7⟩, hc2, hF⟩ := bind_inv hF
 refine sc 43 rfl rfl (Yc_func (g := 71) (vs := [.agg #[vi r_2.Rows, vi r_2.Cols, .slice B2 r_2.Cells.length c2], .agg #[vi m.Rows, vi m.Cols, .slice B m.Cells.length c]]) k_call_71 rfl (mc rfl (mc rfl mn)) (c_impl_MulMatrix r_2 m B2 c2 r_2.Cells.length B c m.Cells.length _ rfl rfl (hS11.inn0 [(false, 4), (true, 0)] rfl) hc2)) ?_
 rintro _ w_11 ⟨B4, c4, rfl, hd2⟩
 have hS12 := hS11.out0 hd2
 have hS12 : ST w0 [] _ [⟨aD b, 38, [vi m.Rows, vi m.Cols, .slice B m.Cells.length c], 3⟩, ⟨aD b1, 38, [vi bar.Rows, vi bar.Cols, .slice B1 bar.Cells.length c1], 3⟩, ⟨aD b2, 44, [vi 0, vi 0, vi 0, vi 0, vi 0], 5⟩, ⟨aD b3, 101, (([2, 3, 4] : List Int).flatMap encI), 3⟩, ⟨B2, 44, (r_2.Cells.flatMap eN0), c2 * 5⟩, ⟨aD b4, 38, [vi r_2.Rows, vi r_2.Cols, .slice B2 r_2.Cells.length c2], 3⟩, ⟨B3, 44, (r_4.Cells.flatMap eN0), c3 * 5⟩, ⟨aD b5, 38, [vi r_4.Rows, vi r_4.Cols, .slice B3 r_4.Cells.length c3], 3⟩, ⟨B4, 44, (r_6.Cells.flatMap eN0), c4 * 5⟩] [⟨B, (m.Cells.flatMap eN0)⟩, ⟨B1, (bar.Cells.flatMap eN0)⟩, ⟨(aD 0), [vi 1, vi 0, vi 0, vi 0, vi 2]⟩] := hS12
 refine sq 40 rfl rfl (Y_move (v := .tuple #[.agg #[vi r_6.Rows, vi r_6.Cols, .slice B4 r_6.Cells.length c4], .bool r_7]) rfl rfl) ?_
 refine sq 44 rfl rfl (Y_extract (v := .agg #[vi r_6.Rows, vi r_6.Cols, .slice B4 r_6.Cells.length c4]) rfl rfl rfl) ?_
 refine sq 45 rfl rfl (Y_extract (v := .bool r_7) rfl rfl rfl) ?_
 refine ss 15 rfl rfl (Ys_alloc (T := 38) (cs := [vi 0, vi 0, .slice none 0 0]) (m := 3) hS12 k_zero_38 rfl rfl rfl) ?_
 rintro _ w_12 ⟨b6, rfl, hS13⟩
 have hS13 : ST w0 [] _ [⟨aD b, 38, [vi m.Rows, vi m.Cols, .slice B m.Cells.length c], 3⟩, ⟨aD b1, 38, [vi bar.Rows, vi bar.Cols, .slice B1 bar.Cells.length c1], 3⟩, ⟨aD b2, 44, [vi 0, vi 0, vi 0, vi 0, vi 0], 5⟩, ⟨aD b3, 101, (([2, 3, 4] : List Int).flatMap encI), 3⟩, ⟨B2, 44, (r_2.Cells.flatMap eN0), c2 * 5⟩, ⟨aD b4, 38, [vi r_2.Rows, vi r_2.Cols, .slice B2 r_2.Cells.length c2], 3⟩, ⟨B3, 44, (r_4.Cells.flatMap eN0), c3 * 5⟩, ⟨aD b5, 38, [vi r_4.Rows, vi r_4.Cols, .slice B3 r_4.Cells.length c3], 3⟩, ⟨B4, 44, (r_6.Cells.flatMap eN0), c4 * 5⟩, ⟨aD b6, 38, [vi 0, vi 0, .slice none 0 0], 3⟩] [⟨B, (m.Cells.flatMap eN0)⟩, ⟨B1, (bar.Cells.flatMap eN0)⟩, ⟨(aD 0), [vi 1, vi 0, vi 0, vi 0, vi 2]⟩] := hS13
 refine ss0 rfl rfl (Ys_store (i := 9) (s := 3) (B := aD b6) (T' := 38) (v := .agg #[vi r_6.Rows, vi r_6.Cols, .slice B4 r_6.Cells.length c4]) (vs := [vi r_6.Rows, vi r_6.Cols, .slice B4 r_6.Cells.length c4]) (k := 0) (cs' := [vi r_6.Rows, vi r_6.Cols, .slice B4 r_6.Cells.length c4]) hS13 k_sz_38_3 rfl rfl rfl rfl rfl rfl rfl (Nat.le_of_ble_eq_true rfl) rfl rfl) ?_
 rintro _ w_13 ⟨rfl, hS14⟩
 have hS14 : ST w0 [] _ [⟨aD b, 38, [vi m.Rows, vi m.Cols, .slice B m.Cells.length c], 3⟩, ⟨aD b1, 38, [vi bar.Rows, vi bar.Cols, .slice B1 bar.Cells.length c1], 3⟩, ⟨aD b2, 44, [vi 0, vi 0, vi 0, vi 0, vi 0], 5⟩, ⟨aD b3, 101, (([2, 3, 4] : List Int).flatMap encI), 3⟩, ⟨B2, 44, (r_2.Cells.flatMap eN0), c2 * 5⟩, ⟨aD b4, 38, [vi r_2.Rows, vi r_2.Cols, .slice B2 r_2.Cells.length c2], 3⟩, ⟨B3, 44, (r_4.Cells.flatMap eN0), c3 * 5⟩, ⟨aD b5, 38, [vi r_4.Rows, vi r_4.Cols, .slice B3 r_4.Cells.length c3], 3⟩, ⟨B4, 44, (r_6.Cells.flatMap eN0), c4 * 5⟩, ⟨aD b6, 38, [vi r_6.Rows, vi r_6.Cols, .slice B4 r_6.Cells.length c4], 3⟩] [⟨B, (m.Cells.flatMap eN0)⟩, ⟨B1, (bar.Cells.flatMap eN0)⟩, ⟨(aD 0), [vi 1, vi 0, vi 0, vi 0, vi 2]⟩] := hS14
 refine sq 16 rfl rfl (Y_assign (v := .bool r_7) rfl rfl) ?_
 refine rw_nil ?_
 refine cw_seq ?_
 refine cw_region ?_
 refine sq 47 rfl rfl (Y_loadA (B := aD b6) (i := 0) (cs := [vi r_6.Rows, vi r_6.Cols, .slice B4 r_6.Cells.length c4]) (vs := [vi r_6.Rows, vi r_6.Cols, .slice B4 r_6.Cells.length c4]) k_ag_38 k_sz_38_3 rfl rfl (hS14.cf (i := 9) rfl) rfl rfl) ?_
 refine sq 48 rfl rfl (Y_loadA (B := aD b5) (i := 0) (cs := [vi r_4.Rows, vi r_4.Cols, .slice B3 r_4.Cells.length c3]) (vs := [vi r_4.Rows, vi r_4.Cols, .slice B3 r_4.Cells.length c3]) k_ag_38 k_sz_38_3 rfl rfl (hS14.cf (i := 7) rfl) rfl rfl) ?_
 obtain ⟨⟨r_8, r_9⟩, hc3, hF⟩ := bind_inv hF
 refine sc 49 rfl rfl (Yc_func (g := 71) (vs := [.agg #[vi r_6.Rows, vi r_6.Cols, .slice B4 r_6.Cells.length c4], .agg #[vi r_4.Rows, vi r_4.Cols, .slice B3 r_4.Cells.length c3]]) k_call_71 rfl (mc rfl (mc rfl mn)) (c_impl_MulMatrix r_6 r_4 B4 c4 r_6.Cells.length B3 c3 r_4.Cells.length _ rfl rfl (hS14.inn0 [(false, 8), (false, 6)] rfl) hc3)) ?_
 rintro _ w_14 ⟨B5, c5, rfl, hd3⟩
 have hS15 := hS14.out0 hd3
 have hS15 : ST w0 [] _ [⟨aD b, 38, [vi m.Rows, vi m.Cols, .slice B m.Cells.length c], 3⟩, ⟨aD b1, 38, [vi bar.Rows, vi bar.Cols, .slice B1 bar.Cells.length c1], 3⟩, ⟨aD b2, 44, [vi 0, vi 0, vi 0, vi 0, vi 0], 5⟩, ⟨aD b3, 101, (([2, 3, 4] : List Int).flatMap encI), 3⟩, ⟨B2, 44, (r_2.Cells.flatMap eN0), c2 * 5⟩, ⟨aD b4, 38, [vi r_2.Rows, vi r_2.Cols, .slice B2 r_2.Cells.length c2], 3⟩, ⟨B3, 44, (r_4.Cells.flatMap eN0), c3 * 5⟩, ⟨aD b5, 38, [vi r_4.Rows, vi r_4.Cols, .slice B3 r_4.Cells.length c3], 3⟩, ⟨B4, 44, (r_6.Cells.flatMap eN0), c4 * 5⟩, ⟨aD b6, 38, [vi r_6.Rows, vi r_6.Cols, .slice B4 r_6.Cells.length c4], 3⟩, ⟨B5, 44, (r_8.Cells.flatMap eN0), c5 * 5⟩] [⟨B, (m.Cells.flatMap eN0)⟩, ⟨B1, (bar.Cells.flatMap eN0)⟩, ⟨(aD 0), [vi 1, vi 0, vi 0, vi 0, vi 2]⟩] := hS15
 refine sq 46 rfl rfl (Y_move (v := .tuple #[.agg #[vi r_8.Rows, vi r_8.Cols, .slice B5 r_8.Cells.length c5], .bool r_9]) rfl rfl) ?_
 refine sq 50 rfl rfl (Y_extract (v := .agg #[vi r_8.Rows, vi r_8.Cols, .slice B5 r_8.Cells.length c5]) rfl rfl rfl) ?_
 refine sq 51 rfl rfl (Y_extract (v := .bool r_9) rfl rfl rfl) ?_
 refine ss0 rfl rfl (Ys_store (i := 9) (s := 3) (B := aD b6) (T' := 38) (v := .agg #[vi r_8.Rows, vi r_8.Cols, .slice B5 r_8.Cells.length c5]) (vs := [vi r_8.Rows, vi r_8.Cols, .slice B5 r_8.Cells.length c5]) (k := 0) (cs' := [vi r_8.Rows, vi r_8.Cols, .slice B5 r_8.Cells.length c5]) hS15 k_sz_38_3 rfl rfl rfl rfl rfl rfl rfl (Nat.le_of_ble_eq_true rfl) rfl rfl) ?_
 rintro _ w_15 ⟨rfl, hS16⟩
 have hS16 : ST w0 [] _ [⟨aD b, 38, [vi m.Rows, vi m.Cols, .slice B m.Cells.length c], 3⟩, ⟨aD b1, 38, [vi bar.Rows, vi bar.Cols, .slice B1 bar.Cells.length c1], 3⟩, ⟨aD b2, 44, [vi 0, vi 0, vi 0, vi 0, vi 0], 5⟩, ⟨aD b3, 101, (([2, 3, 4] : List Int).flatMap encI), 3⟩, ⟨B2, 44, (r_2.Cells.flatMap eN0), c2 * 5⟩, ⟨aD b4, 38, [vi r_2.Rows, vi r_2.Cols, .slice B2 r_2.Cells.length c2], 3⟩, ⟨B3, 44, (r_4.Cells.flatMap eN0), c3 * 5⟩, ⟨aD b5, 38, [vi r_4.Rows, vi r_4.Cols, .slice B3 r_4.Cells.length c3], 3⟩, ⟨B4, 44, (r_6.Cells.flatMap eN0), c4 * 5⟩, ⟨aD b6, 38, [vi r_8.Rows, vi r_8.Cols, .slice B5 r_8.Cells.length c5], 3⟩, ⟨B5, 44, (r_8.Cells.flatMap eN0), c5 * 5⟩] [⟨B, (m.Cells.flatMap eN0)⟩, ⟨B1, (bar.Cells.flatMap eN0)⟩, ⟨(aD 0), [vi 1, vi 0, vi 0, vi 0, vi 2]⟩] := hS16
 refine sq 17 rfl rfl (Y_assign (v := .bool r_9) rfl rfl) ?_
 refine rw_nil ?_
 refine cw_seq ?_
 refine cw_region ?_
 refine sq 53 rfl rfl (Y_loadA (B := aD b6) (i := 0) (cs := [vi r_8.Rows, vi r_8.Cols, .slice B5 r_8.Cells.length c5]) (vs := [vi r_8.Rows, vi r_8.Cols, .slice B5 r_8.Cells.length c5]) k_ag_38 k_sz_38_3 rfl rfl (hS16.cf (i := 9) rfl) rfl rfl) ?_
 refine sq 54 rfl rfl (Y_loadA (B := aD b1) (i := 0) (cs := [vi bar.Rows, vi bar.Cols, .slice B1 bar.Cells.length c1]) (vs := [vi bar.Rows, vi bar.Cols, .slice B1 bar.Cells.length c1]) k_ag_38 k_sz_38_3 rfl rfl (hS16.cf (i := 1) rfl) rfl rfl) ?_
 obtain ⟨⟨r_10, r_11⟩, hc4, hF⟩ := bind_inv hF
 refine sc 55 rfl rfl (Yc_func (g := 71) (vs := [.agg #[vi r_8.Rows, vi r_8.Cols, .slice B5 r_8.Cells.length c5], .agg #[vi bar.Rows, vi bar.Cols, .slice B1 bar.Cells.length c1]]) k_call_71 rfl (mc rfl (mc rfl mn)) (c_impl_MulMatrix r_8 bar B5 c5 r_8.Cells.length B1 c1 bar.Cells.length _ rfl rfl (hS16.inn0 [(false, 10), (true, 1)] rfl) hc4)) ?_
 rintro _ w_16 ⟨B6, c6, rfl, hd4⟩
 have hS17 := hS16.out0 hd4
 have hS17 : ST w0 [] _ [⟨aD b, 38, [vi m.Rows, vi m.Cols, .slice B m.Cells.length c], 3⟩, ⟨aD b1, 38, [vi bar.Rows, vi bar.Cols, .slice B1 bar.Cells.length c1], 3⟩, ⟨aD b2, 44, [vi 0, vi 0, vi 0, vi 0, vi 0], 5⟩, ⟨aD b3, 101, (([2, 3, 4] : List Int).flatMap encI), 3⟩, ⟨B2, 44, (r_2.Cells.flatMap eN0), c2 * 5⟩, ⟨aD b4, 38, [vi r_2.Rows, vi r_2.Cols, .slice B2 r_2.Cells.length c2], 3⟩, ⟨B3, 44, (r_4.Cells.flatMap eN0), c3 * 5⟩, ⟨aD b5, 38, [vi r_4.Rows, vi r_4.Cols, .slice B3 r_4.Cells.length c3], 3⟩, ⟨B4, 44, (r_6.Cells.flatMap eN0), c4 * 5⟩, ⟨aD b6, 38, [vi r_8.Rows, vi r_8.Cols, .slice B5 r_8.Cells.length c5], 3⟩, ⟨B5, 44, (r_8.Cells.flatMap eN0), c5 * 5⟩, ⟨B6, 44, (r_10.Cells.flatMap eN0), c6 * 5⟩] [⟨B, (m.Cells.flatMap eN0)⟩, ⟨B1, (bar.Cells.flatMap eN0)⟩, ⟨(aD 0), [vi 1, vi 0, vi 0, vi 0, vi 2]⟩] := hS17
 refine sq 52 rfl rfl (Y_move (v := .tuple #[.agg #[vi r_10.Rows, vi r_10.Cols, .slice B6 r_10.Cells.length c6], .bool r_11]) rfl rfl) ?_
 refine sq 56 rfl rfl (Y_extract (v := .agg #[vi r_10.Rows, vi r_10.Cols, .slice B6 r_10.Cells.length c6]) rfl rfl rfl) ?_
 refine sq 57 rfl rfl (Y_extract (v := .bool r_11) rfl rfl rfl) ?_
 refine ss0 rfl rfl (Ys_store (i := 9) (s := 3) (B := aD b6) (T' := 38) (v := .agg #[vi r_10.Rows, vi r_10.Cols, .slice B6 r_10.Cells.length c6]) (vs := [vi r_10.Rows, vi r_10.Cols, .slice B6 r_10.Cells.length c6]) (k := 0) (cs' := [vi r_10.Rows, vi r_10.Cols, .slice B6 r_10.Cells.length c6]) hS17 k_sz_38_3 rfl rfl rfl rfl rfl rfl rfl (Nat.le_of_ble_eq_true rfl) rfl rfl) ?_
 rintro _ w_17 ⟨rfl, hS18⟩
 have hS18 : ST w0 [] _ [⟨aD b, 38, [vi m.Rows, vi m.Cols, .slice B m.Cells.length c], 3⟩, ⟨aD b1, 38, [vi bar.Rows, vi bar.Cols, .slice B1 bar.Cells.length c1], 3⟩, ⟨aD b2, 44, [vi 0, vi 0, vi 0, vi 0, vi 0], 5⟩, ⟨aD b3, 101, (([2, 3, 4] : List Int).flatMap encI), 3⟩, ⟨B2, 44, (r_2.Cells.flatMap eN0), c2 * 5⟩, ⟨aD b4, 38, [vi r_2.Rows, vi r_2.Cols, .slice B2 r_2.Cells.length c2], 3⟩, ⟨B3, 44, (r_4.Cells.flatMap eN0), c3 * 5⟩, ⟨aD b5, 38, [vi r_4.Rows, vi r_4.Cols, .slice B3 r_4.Cells.length c3], 3⟩, ⟨B4, 44, (r_6.Cells.flatMap eN0), c4 * 5⟩, ⟨aD b6, 38, [vi r_10.Rows, vi r_10.Cols, .slice B6 r_10.Cells.length c6], 3⟩, ⟨B5, 44, (r_8.Cells.flatMap eN0), c5 * 5⟩, ⟨B6, 44, (r_10.Cells.flatMap eN0), c6 * 5⟩] [⟨B, (m.Cells.flatMap eN0)⟩, ⟨B1, (bar.Cells.flatMap eN0)⟩, ⟨(aD 0), [vi 1, vi 0, vi 0, vi 0, vi 2]⟩] := hS18
 refine sq 18 rfl rfl (Y_assign (v := .bool r_11) rfl rfl) ?_
 refine rw_nil ?_
 refine cw_seq ?_
 refine cw_region ?_
 refine sq 59 rfl rfl (Y_loadA (B := aD b6) (i := 0) (cs := [vi r_10.Rows, vi r_10.Cols, .slice B6 r_10.Cells.length c6]) (vs := [vi r_10.Rows, vi r_10.Cols, .slice B6 r_10.Cells.length c6]) k_ag_38 k_sz_38_3 rfl rfl (hS18.cf (i := 9) rfl) rfl rfl) ?_
 obtain ⟨⟨r_12, r_13⟩, hc5, hF⟩ := bind_inv hF
 refine sc 60 rfl rfl (Yc_func (g := 72) (vs := [.agg #[vi r_10.Rows, vi r_10.Cols, .slice B6 r_10.Cells.length c6]]) k_call_72 rfl (mc rfl mn) (c_impl_TraceOf r_10 B6 c6 r_10.Cells.length _ rfl (hS18.inn0 [(false, 11)] rfl) hc5)) ?_
 rintro _ w_18 ⟨rfl, hd5⟩
 have hS19 := hS18.out00 hd5
 have hS19 : ST w0 [] _ [⟨aD b, 38, [vi m.Rows, vi m.Cols, .slice B m.Cells.length c], 3⟩, ⟨aD b1, 38, [vi bar.Rows, vi bar.Cols, .slice B1 bar.Cells.length c1], 3⟩, ⟨aD b2, 44, [vi 0, vi 0, vi 0, vi 0, vi 0], 5⟩, ⟨aD b3, 101, (([2, 3, 4] : List Int).flatMap encI), 3⟩, ⟨B2, 44, (r_2.Cells.flatMap eN0), c2 * 5⟩, ⟨aD b4, 38, [vi r_2.Rows, vi r_2.Cols, .slice B2 r_2.Cells.length c2], 3⟩, ⟨B3, 44, (r_4.Cells.flatMap eN0), c3 * 5⟩, ⟨aD b5, 38, [vi r_4.Rows, vi r_4.Cols, .slice B3 r_4.Cells.length c3], 3⟩, ⟨B4, 44, (r_6.Cells.flatMap eN0), c4 * 5⟩, ⟨aD b6, 38, [vi r_10.Rows, vi r_10.Cols, .slice B6 r_10.Cells.length c6], 3⟩, ⟨B5, 44, (r_8.Cells.flatMap eN0), c5 * 5⟩, ⟨B6, 44, (r_10.Cells.flatMap eN0), c6 * 5⟩] [⟨B, (m.Cells.flatMap eN0)⟩, ⟨B1, (bar.Cells.flatMap eN0)⟩, ⟨(aD 0), [vi 1, vi 0, vi 0, vi 0, vi 2]⟩] := hS19
 refine sq 58 rfl rfl (Y_move (v := .tuple #[.agg #[vi r_12.Num.A, vi r_12.Num.B, vi r_12.Num.C, vi r_12.Num.D, vi r_12.Exp], .bool r_13]) rfl rfl) ?_
 refine sq 61 rfl rfl (Y_extract (v := .agg #[vi r_12.Num.A, vi r_12.Num.B, vi r_12.Num.C, vi r_12.Num.D, vi r_12.Exp]) rfl rfl rfl) ?_
 refine sq 62 rfl rfl (Y_extract (v := .bool r_13) rfl rfl rfl) ?_
 refine ss 19 rfl rfl (Ys_alloc (T := 44) (cs := [vi 0, vi 0, vi 0, vi 0, vi 0]) (m := 5) hS19 k_zero_44 rfl rfl rfl) ?_
 rintro _ w_19 ⟨b7, rfl, hS20⟩
 have hS20 : ST w0 [] _ [⟨aD b, 38, [vi m.Rows, vi m.Cols, .slice B m.Cells.length c], 3⟩, ⟨aD b1, 38, [vi bar.Rows, vi bar.Cols, .slice B1 bar.Cells.length c1], 3⟩, ⟨aD b2, 44, [vi 0, vi 0, vi 0, vi 0, vi 0], 5⟩, ⟨aD b3, 101, (([2, 3, 4] : List Int).flatMap encI), 3⟩, ⟨B2, 44, (r_2.Cells.flatMap eN0), c2 * 5⟩, ⟨aD b4, 38, [vi r_2.Rows, vi r_2.Cols, .slice B2 r_2.Cells.length c2], 3⟩, ⟨B3, 44, (r_4.Cells.flatMap eN0), c3 * 5⟩, ⟨aD b5, 38, [vi r_4.Rows, vi r_4.Cols, .slice B3 r_4.Cells.length c3], 3⟩, ⟨B4, 44, (r_6.Cells.flatMap eN0), c4 * 5⟩, ⟨aD b6, 38, [vi r_10.Rows, vi r_10.Cols, .slice B6 r_10.Cells.length c6], 3⟩, ⟨B5, 44, (r_8.Cells.flatMap eN0), c5 * 5⟩, ⟨B6, 44, (r_10.Cells.flatMap eN0), c6 * 5⟩, ⟨aD b7, 44, [vi 0, vi 0, vi 0, vi 0, vi 0], 5⟩] [⟨B, (m.Cells.flatMap eN0)⟩, ⟨B1, (bar.Cells.flatMap eN0)⟩, ⟨(aD 0), [vi 1, vi 0, vi 0, vi 0, vi 2]⟩] := hS20
 refine ss0 rfl rfl (Ys_store (i := 12) (s := 5) (B := aD b7) (T' := 44) (v := .agg #[vi r_12.Num.A, vi r_12.Num.B, vi r_12.Num.C, vi r_12.Num.D, vi r_12.Exp]) (vs := [vi r_12.Num.A, vi r_12.Num.B, vi r_12.Num.C, vi r_12.Num.D, vi r_12.Exp]) (k := 0) (cs' := [vi r_12.Num.A, vi r_12.Num.B, vi r_12.Num.C, vi r_12.Num.D, vi r_12.Exp]) hS20 k_sz_44_5 rfl rfl rfl rfl rfl rfl rfl (Nat.le_of_ble_eq_true rfl) rfl rfl) ?_
 rintro _ w_20 ⟨rfl, hS21⟩
 have hS21 : ST w0 [] _ [⟨aD b, 38, [vi m.Rows, vi m.Cols, .slice B m.Cells.length c], 3⟩, ⟨aD b1, 38, [vi bar.Rows, vi bar.Cols, .slice B1 bar.Cells.length c1], 3⟩, ⟨aD b2, 44, [vi 0, vi 0, vi 0, vi 0, vi 0], 5⟩, ⟨aD b3, 101, (([2, 3, 4] : List Int).flatMap encI), 3⟩, ⟨B2, 44, (r_2.Cells.flatMap eN0), c2 * 5⟩, ⟨aD b4, 38, [vi r_2.Rows, vi r_2.Cols, .slice B2 r_2.Cells.length c2], 3⟩, ⟨B3, 44, (r_4.Cells.flatMap eN0), c3 * 5⟩, ⟨aD b5, 38, [vi r_4.Rows, vi r_4.Cols, .slice B3 r_4.Cells.length c3], 3⟩, ⟨B4, 44, (r_6.Cells.flatMap eN0), c4 * 5⟩, ⟨aD b6, 38, [vi r_10.Rows, vi r_10.Cols, .slice B6 r_10.Cells.length c6], 3⟩, ⟨B5, 44, (r_8.Cells.flatMap eN0), c5 * 5⟩, ⟨B6, 44, (r_10.Cells.flatMap eN0), c6 * 5⟩, ⟨aD b7, 44, [vi r_12.Num.A, vi r_12.Num.B, vi r_12.Num.C, vi r_12.Num.D, vi r_12.Exp], 5⟩] [⟨B, (m.Cells.flatMap eN0)⟩, ⟨B1, (bar.Cells.flatMap eN0)⟩, ⟨(aD 0), [vi 1, vi 0, vi 0, vi 0, vi 2]⟩] := hS21
 refine sq 20 rfl rfl (Y_assign (v := .bool r_13) rfl rfl) ?_
 refine rw_nil ?_
 refine cw_seq ?_
 refine cw_region ?_
 refine sq 64 rfl rfl (Y_loadA (B := aD b7) (i := 0) (cs := [vi r_12.Num.A, vi r_12.Num.B, vi r_12.Num.C, vi r_12.Num.D, vi r_12.Exp]) (vs := [vi r_12.Num.A, vi r_12.Num.B, vi r_12.Num.C, vi r_12.Num.D, vi r_12.Exp]) k_ag_44 k_sz_44_5 rfl rfl (hS21.cf (i := 12) rfl) rfl rfl) ?_
 refine sq 65 rfl rfl (Y_loadA (B := (aD 0)) (i := 0) (cs := [vi 1, vi 0, vi 0, vi 0, vi 2]) (vs := [vi 1, vi 0, vi 0, vi 0, vi 2]) k_ag_44 k_sz_44_5 rfl rfl (hS21.rf (i := 2) rfl) rfl rfl) ?_
 obtain ⟨⟨r_14, r_15⟩, hc6, hF⟩ := bind_inv hF
 refine sc 66 rfl rfl (Yc_func (g := 28) (vs := [.agg #[vi r_12.Num.A, vi r_12.Num.B, vi r_12.Num.C, vi r_12.Num.D, vi r_12.Exp], .agg #[vi 1, vi 0, vi 0, vi 0, vi 2]]) k_call_28 rfl (mc rfl (mc rfl mn)) (c_impl_MulDyadic r_12 (TDyadic.mk (TRing.mk 1 0 0 0) 2) _  (hS21.inn0 [] rfl) hc6)) ?_
 rintro _ w_21 ⟨rfl, hd6⟩
 have hS22 := hS21.out00 hd6
 have hS22 : ST w0 [] _ [⟨aD b, 38, [vi m.Rows, vi m.Cols, .slice B m.Cells.length c], 3⟩, ⟨aD b1, 38, [vi bar.Rows, vi bar.Cols, .slice B1 bar.Cells.length c1], 3⟩, ⟨aD b2, 44, [vi 0, vi 0, vi 0, vi 0, vi 0], 5⟩, ⟨aD b3, 101, (([2, 3, 4] : List Int).flatMap encI), 3⟩, ⟨B2, 44, (r_2.Cells.flatMap eN0), c2 * 5⟩, ⟨aD b4, 38, [vi r_2.Rows, vi r_2.Cols, .slice B2 r_2.Cells.length c2], 3⟩, ⟨B3, 44, (r_4.Cells.flatMap eN0), c3 * 5⟩, ⟨aD b5, 38, [vi r_4.Rows, vi r_4.Cols, .slice B3 r_4.Cells.length c3], 3⟩, ⟨B4, 44, (r_6.Cells.flatMap eN0), c4 * 5⟩, ⟨aD b6, 38, [vi r_10.Rows, vi r_10.Cols, .slice B6 r_10.Cells.length c6], 3⟩, ⟨B5, 44, (r_8.Cells.flatMap eN0), c5 * 5⟩, ⟨B6, 44, (r_10.Cells.flatMap eN0), c6 * 5⟩, ⟨aD b7, 44, [vi r_12.Num.A, vi r_12.Num.B, vi r_12.Num.C, vi r_12.Num.D, vi r_12.Exp], 5⟩] [⟨B, (m.Cells.flatMap eN0)⟩, ⟨B1, (bar.Cells.flatMap eN0)⟩, ⟨(aD 0), [vi 1, vi 0, vi 0, vi 0, vi 2]⟩] := hS22
 refine sq 63 rfl rfl (Y_move (v := .tuple #[.agg #[vi r_14.Num.A, vi r_14.Num.B, vi r_14.Num.C, vi r_14.Num.D, vi r_14.Exp], .bool r_15]) rfl rfl) ?_
 refine sq 67 rfl rfl (Y_extract (v := .agg #[vi r_14.Num.A, vi r_14.Num.B, vi r_14.Num.C, vi r_14.Num.D, vi r_14.Exp]) rfl rfl rfl) ?_
 refine sq 68 rfl rfl (Y_extract (v := .bool r_15) rfl rfl rfl) ?_
 refine ss 21 rfl rfl (Ys_alloc (T := 44) (cs := [vi 0, vi 0, vi 0, vi 0, vi 0]) (m := 5) hS22 k_zero_44 rfl rfl rfl) ?_
 rintro _ w_22 ⟨b8, rfl, hS23⟩
 have hS23 : ST w0 [] _ [⟨aD b, 38, [vi m.Rows, vi m.Cols, .slice B m.Cells.length c], 3⟩, ⟨aD b1, 38, [vi bar.Rows, vi bar.Cols, .slice B1 bar.Cells.length c1], 3⟩, ⟨aD b2, 44, [vi 0, vi 0, vi 0, vi 0, vi 0], 5⟩, ⟨aD b3, 101, (([2, 3, 4] : List Int).flatMap encI), 3⟩, ⟨B2, 44, (r_2.Cells.flatMap eN0), c2 * 5⟩, ⟨aD b4, 38, [vi r_2.Rows, vi r_2.Cols, .slice B2 r_2.Cells.length c2], 3⟩, ⟨B3, 44, (r_4.Cells.flatMap eN0), c3 * 5⟩, ⟨aD b5, 38, [vi r_4.Rows, vi r_4.Cols, .slice B3 r_4.Cells.length c3], 3⟩, ⟨B4, 44, (r_6.Cells.flatMap eN0), c4 * 5⟩, ⟨aD b6, 38, [vi r_10.Rows, vi r_10.Cols, .slice B6 r_10.Cells.length c6], 3⟩, ⟨B5, 44, (r_8.Cells.flatMap eN0), c5 * 5⟩, ⟨B6, 44, (r_10.Cells.flatMap eN0), c6 * 5⟩, ⟨aD b7, 44, [vi r_12.Num.A, vi r_12.Num.B, vi r_12.Num.C, vi r_12.Num.D, vi r_12.Exp], 5⟩, ⟨aD b8, 44, [vi 0, vi 0, vi 0, vi 0, vi 0], 5⟩] [⟨B, (m.Cells.flatMap eN0)⟩, ⟨B1, (bar.Cells.flatMap eN0)⟩, ⟨(aD 0), [vi 1, vi 0, vi 0, vi 0, vi 2]⟩] := hS23
 refine ss0 rfl rfl (Ys_store (i := 13) (s := 5) (B := aD b8) (T' := 44) (v := .agg #[vi r_14.Num.A, vi r_14.Num.B, vi r_14.Num.C, vi r_14.Num.D, vi r_14.Exp]) (vs := [vi r_14.Num.A, vi r_14.Num.B, vi r_14.Num.C, vi r_14.Num.D, vi r_14.Exp]) (k := 0) (cs' := [vi r_14.Num.A, vi r_14.Num.B, vi r_14.Num.C, vi r_14.Num.D, vi r_14.Exp]) hS23 k_sz_44_5 rfl rfl rfl rfl rfl rfl rfl (Nat.le_of_ble_eq_true rfl) rfl rfl) ?_
 rintro _ w_23 ⟨rfl, hS24⟩
 have hS24 : ST w0 [] _ [⟨aD b, 38, [vi m.Rows, vi m.Cols, .slice B m.Cells.length c], 3⟩, ⟨aD b1, 38, [vi bar.Rows, vi bar.Cols, .slice B1 bar.Cells.length c1], 3⟩, ⟨aD b2, 44, [vi 0, vi 0, vi 0, vi 0, vi 0], 5⟩, ⟨aD b3, 101, (([2, 3, 4] : List Int).flatMap encI), 3⟩, ⟨B2, 44, (r_2.Cells.flatMap eN0), c2 * 5⟩, ⟨aD b4, 38, [vi r_2.Rows, vi r_2.Cols, .slice B2 r_2.Cells.length c2], 3⟩, ⟨B3, 44, (r_4.Cells.flatMap eN0), c3 * 5⟩, ⟨aD b5, 38, [vi r_4.Rows, vi r_4.Cols, .slice B3 r_4.Cells.length c3], 3⟩, ⟨B4, 44, (r_6.Cells.flatMap eN0), c4 * 5⟩, ⟨aD b6, 38, [vi r_10.Rows, vi r_10.Cols, .slice B6 r_10.Cells.length c6], 3⟩, ⟨B5, 44, (r_8.Cells.flatMap eN0), c5 * 5⟩, ⟨B6, 44, (r_10.Cells.flatMap eN0), c6 * 5⟩, ⟨aD b7, 44, [vi r_12.Num.A, vi r_12.Num.B, vi r_12.Num.C, vi r_12.Num.D, vi r_12.Exp], 5⟩, ⟨aD b8, 44, [vi r_14.Num.A, vi r_14.Num.B, vi r_14.Num.C, vi r_14.Num.D, vi r_14.Exp], 5⟩] [⟨B, (m.Cells.flatMap eN0)⟩, ⟨B1, (bar.Cells.flatMap eN0)⟩, ⟨(aD 0), [vi 1, vi 0, vi 0, vi 0, vi 2]⟩] := hS24
 refine sq 22 rfl rfl (Y_assign (v := .bool r_15) rfl rfl) ?_
 refine rw_nil ?_
 refine cw_seq ?_
 refine cw_region ?_
 refine sq 69 rfl rfl (Y_loadA (B := aD b8) (i := 0) (cs := [vi r_14.Num.A, vi r_14.Num.B, vi r_14.Num.C, vi r_14.Num.D, vi r_14.Exp]) (vs := [vi r_14.Num.A, vi r_14.Num.B, vi r_14.Num.C, vi r_14.Num.D, vi r_14.Exp]) k_ag_44 k_sz_44_5 rfl rfl (hS24.cf (i := 13) rfl) rfl rfl) ?_
 refine sq 70 rfl rfl (Y_move (v := .bool r_7) rfl rfl) ?_
 refine sq 71 rfl rfl (Y_move (v := .bool r_7) rfl rfl) ?_
 refine sgq 72 (B := r_7) (v := .bool r_9) rfl rfl (wt_t (gd_of (t := 71) (by kernel_rfl) rfl)) (fun hg => (Y_move (v := .bool r_9) rfl rfl)) ?_
 refine sq 73 rfl rfl (Y_and (b := r_7) (z := r_9) rfl rfl rfl rfl) ?_
 refine sq 74 rfl rfl (Y_move (v := .bool (r_7 && r_9)) rfl rfl) ?_
 refine sgq 75 (B := (r_7 && r_9)) (v := .bool r_11) rfl rfl (wt_t (gd_of (t := 74) (by kernel_rfl) rfl)) (fun hg1 => (Y_move (v := .bool r_11) rfl rfl)) ?_
 refine sq 76 rfl rfl (Y_and (b := (r_7 && r_9)) (z := r_11) rfl rfl rfl rfl) ?_
 refine sq 77 rfl rfl (Y_move (v := .bool ((r_7 && r_9) && r_11)) rfl rfl) ?_
 refine sgq 78 (B := ((r_7 && r_9) && r_11)) (v := .bool r_13) rfl rfl (wt_t (gd_of (t := 77) (by kernel_rfl) rfl)) (fun hg2 => (Y_move (v := .bool r_13) rfl rfl)) ?_
 refine sq 79 rfl rfl (Y_and (b := ((r_7 && r_9) && r_11)) (z := r_13) rfl rfl rfl rfl) ?_
 refine sq 80 rfl rfl (Y_move (v := .bool (((r_7 && r_9) && r_11) && r_13)) rfl rfl) ?_
 refine sgq 81 (B := (((r_7 && r_9) && r_11) && r_13)) (v := .bool r_15) rfl rfl (wt_t (gd_of (t := 80) (by kernel_rfl) rfl)) (fun hg3 => (Y_move (v := .bool r_15) rfl rfl)) ?_
 refine sq 82 rfl rfl (Y_and (b := (((r_7 && r_9) && r_11) && r_13)) (z := r_15) rfl rfl rfl rfl) ?_
 refine ss0 rfl rfl (Ys_store (i := 2) (s := 5) (B := aD b2) (T' := 44) (v := .agg #[vi r_14.Num.A, vi r_14.Num.B, vi r_14.Num.C, vi r_14.Num.D, vi r_14.Exp]) (vs := [vi r_14.Num.A, vi r_14.Num.B, vi r_14.Num.C, vi r_14.Num.D, vi r_14.Exp]) (k := 0) (cs' := [vi r_14.Num.A, vi r_14.Num.B, vi r_14.Num.C, vi r_14.Num.D, vi r_14.Exp]) hS24 k_sz_44_5 rfl rfl rfl rfl rfl rfl rfl (Nat.le_of_ble_eq_true rfl) rfl rfl) ?_
 rintro _ w_24 ⟨rfl, hS25⟩
 have hS25 : ST w0 [] _ [⟨aD b, 38, [vi m.Rows, vi m.Cols, .slice B m.Cells.length c], 3⟩, ⟨aD b1, 38, [vi bar.Rows, vi bar.Cols, .slice B1 bar.Cells.length c1], 3⟩, ⟨aD b2, 44, [vi r_14.Num.A, vi r_14.Num.B, vi r_14.Num.C, vi r_14.Num.D, vi r_14.Exp], 5⟩, ⟨aD b3, 101, (([2, 3, 4] : List Int).flatMap encI), 3⟩, ⟨B2, 44, (r_2.Cells.flatMap eN0), c2 * 5⟩, ⟨aD b4, 38, [vi r_2.Rows, vi r_2.Cols, .slice B2 r_2.Cells.length c2], 3⟩, ⟨B3, 44, (r_4.Cells.flatMap eN0), c3 * 5⟩, ⟨aD b5, 38, [vi r_4.Rows, vi r_4.Cols, .slice B3 r_4.Cells.length c3], 3⟩, ⟨B4, 44, (r_6.Cells.flatMap eN0), c4 * 5⟩, ⟨aD b6, 38, [vi r_10.Rows, vi r_10.Cols, .slice B6 r_10.Cells.length c6], 3⟩, ⟨B5, 44, (r_8.Cells.flatMap eN0), c5 * 5⟩, ⟨B6, 44, (r_10.Cells.flatMap eN0), c6 * 5⟩, ⟨aD b7, 44, [vi r_12.Num.A, vi r_12.Num.B, vi r_12.Num.C, vi r_12.Num.D, vi r_12.Exp], 5⟩, ⟨aD b8, 44, [vi r_14.Num.A, vi r_14.Num.B, vi r_14.Num.C, vi r_14.Num.D, vi r_14.Exp], 5⟩] [⟨B, (m.Cells.flatMap eN0)⟩, ⟨B1, (bar.Cells.flatMap eN0)⟩, ⟨(aD 0), [vi 1, vi 0, vi 0, vi 0, vi 2]⟩] := hS25
 refine sq 9 rfl rfl (Y_assign (v := .bool ((((r_7 && r_9) && r_11) && r_13) && r_15)) rfl rfl) ?_
 refine rw_nil ?_
 refine cw_ret ?_
 obtain ⟨rfl, rfl⟩ := pr2 (some_inj hF)
 exact ret2 Tryd.results51 (v1 := .agg #[vi r_14.Num.A, vi r_14.Num.B, vi r_14.Num.C, vi r_14.Num.D, vi r_14.Exp]) (resAt_cellA (B := aD b2) (i := 0) (cs := [vi r_14.Num.A, vi r_14.Num.B, vi r_14.Num.C, vi r_14.Num.D, vi r_14.Exp]) (vs := [vi r_14.Num.A, vi r_14.Num.B, vi r_14.Num.C, vi r_14.Num.D, vi r_14.Exp]) rfl k_ag_44 k_sz_44_5 (hS25.cf (i := 2) rfl) rfl rfl) (v2 := .bool ((((r_7 && r_9) && r_11) && r_13) && r_15)) (resAt_tmp rfl) ⟨rfl, (ST.subR (R' := []) (hS25.sel [] rfl rfl) (fun _ h => by cases h))⟩

theorem c_impl_BlochOf (m : TMatrix) (B : Option Addr) (c n : Nat) (w0 : World) (hn : m.Cells.length = n) (hS : ST w0 [] w0 [] [⟨B, (m.Cells.flatMap eN0)⟩, ⟨(aD 0), [vi 1, vi 0, vi 0, vi 0, vi 2]⟩]) {r_ : TBloch} {r_1 : Bool} (hF : F_impl_BlochOf m = some (r_, r_1)) :
  CV Tryd.prog 27 #[.agg #[vi m.Rows, vi m.Cols, .slice B n c]] w0 (fun v w' => ∃ (B1 : Option Addr) (c1 : Nat), v = .tuple #[.agg #[.slice B1 r_.Cells.length c1], .bool r_1] ∧ ST w0 [] w' [⟨B1, 44, (r_.Cells.flatMap eN0), c1 * 5⟩] []) := by
 subst hn
 unfold F_impl_BlochOf at hF
 refine cv_of_cw 47 Tryd.func27 rfl Tryd.ntmps27 rfl ?_
 refine cw_seq ?_
 refine cw_region ?_
 refine ss 1 rfl rfl (Ys_box (T := 38) (v := .agg #[vi m.Rows, vi m.Cols, .slice B m.Cells.length c]) (cs := [vi m.Rows, vi m.Cols, .slice B m.Cells.length c]) (m := 3) hS rfl rfl rfl rfl) ?_
 rintro _ w_ ⟨b, rfl, hS1⟩
 refine ss 2 rfl rfl (Ys_alloc (T := 34) (cs := [.slice none 0 0]) (m := 1) hS1 k_zero_34 rfl rfl rfl) ?_
 rintro _ w_1 ⟨b1, rfl, hS2⟩
 have hS2 : ST w0 [] _ [⟨aD b, 38, [vi m.Rows, vi m.Cols, .slice B m.Cells.length c], 3⟩, ⟨aD b1, 34, [.slice none 0 0], 1⟩] [⟨B, (m.Cells.flatMap eN0)⟩, ⟨(aD 0), [vi 1, vi 0, vi 0, vi 0, vi 2]⟩] := hS2
 refine sq 3 rfl rfl (Y_assign (v := .bool false) rfl rfl) ?_
 refine rw_nil ?_
 refine cw_seq ?_
 refine cw_seq ?_
 refine cw_region ?_
 refine sq 11 rfl rfl (Y_loadA (B := aD b) (i := 0) (cs := [vi m.Rows, vi m.Cols, .slice B m.Cells.length c]) (vs := [vi m.Rows, vi m.Cols, .slice B m.Cells.length c]) k_ag_38 k_sz_38_3 rfl rfl (hS2.cf (i := 0) rfl) rfl rfl) ?_
 obtain ⟨r_2, hc, hF⟩ := bind_inv hF
 refine sc 12 rfl rfl (Yc_func (g := 49) (vs := [.agg #[vi m.Rows, vi m.Cols, .slice B m.Cells.length c]]) k_call_49 rfl (mc rfl mn) (c_impl_IsOneQubit m B c m.Cells.length _ rfl (hS2.inn0 [(true, 0)] rfl) hc)) ?_
 rintro _ w_2 ⟨rfl, hd⟩
 have hS3 := hS2.out00 hd
 have hS3 : ST w0 [] _ [⟨aD b, 38, [vi m.Rows, vi m.Cols, .slice B m.Cells.length c], 3⟩, ⟨aD b1, 34, [.slice none 0 0], 1⟩] [⟨B, (m.Cells.flatMap eN0)⟩, ⟨(aD 0), [vi 1, vi 0, vi 0, vi 0, vi 2]⟩] := hS3
 refine sq 13 rfl rfl (Y_not (p := r_2) rfl rfl) ?_
 refine rw_nil ?_
 refine cw_cond (b := (!r_2)) rfl (fun hb => ?_) (fun hb => ?_)
 ·skip
  have hF1 := ct hF hb
  refine cw_seq ?_
  refine cw_region ?_
  refine sq 14 rfl rfl (Y_buildS (zs := [.slice none 0 0]) (vs := []) (cs := [.slice none 0 0]) k_pl_34 k_zero_34 rfl mpn rfl) ?_
  refine ss0 rfl rfl (Ys_store (i := 1) (s := 1) (B := aD b1) (T' := 34) (v := .agg #[.slice none 0 0]) (vs := [.slice none 0 0]) (k := 0) (cs' := [.slice none 0 0]) hS3 k_sz_34_1 rfl rfl rfl rfl rfl rfl rfl (Nat.le_of_ble_eq_true rfl) rfl rfl) ?_
  rintro _ w_3 ⟨rfl, hS4⟩
  have hS4 : ST w0 [] _ [⟨aD b, 38, [vi m.Rows, vi m.Cols, .slice B m.Cells.length c], 3⟩, ⟨aD b1, 34, [.slice none 0 0], 1⟩] [⟨B, (m.Cells.flatMap eN0)⟩, ⟨(aD 0), [vi 1, vi 0, vi 0, vi 0, vi 2]⟩] := hS4
  refine sq 3 rfl rfl (Y_assign (v := .bool false) rfl rfl) ?_
  refine rw_nil ?_
  refine cw_ret ?_
  have hS5 := hS4.addNil 44
  obtain ⟨rfl, rfl⟩ := pr2 (some_inj hF1)
  exact ret2 Tryd.results27 (v1 := .agg #[.slice none 0 0]) (resAt_cellA (B := aD b1) (i := 0) (cs := [.slice none 0 0]) (vs := [.slice none 0 0]) rfl k_ag_34 k_sz_34_1 (hS5.cf (i := 1) rfl) rfl rfl) (v2 := .bool false) (resAt_tmp rfl) ⟨none, 0, rfl, (ST.subR (R' := []) (hS5.sel [2] rfl rfl) (fun _ h => by cases h))⟩
 ·skip
  have hF2 := cf' hF hb
  refine cw_skip ?_
  refine cw_seq ?_
  refine cw_region ?_
  refine sq 16 rfl rfl (Y_loadA (B := aD b) (i := 0) (cs := [vi m.Rows, vi m.Cols, .slice B m.Cells.length c]) (vs := [vi m.Rows, vi m.Cols, .slice B m.Cells.length c]) k_ag_38 k_sz_38_3 rfl rfl (hS3.cf (i := 0) rfl) rfl rfl) ?_
  obtain ⟨⟨r_3, r_4⟩, hc1, hF2⟩ := bind_inv hF2
  refine sc 17 rfl rfl (Yc_func (g := 50) (vs := [.agg #[vi m.Rows, vi m.Cols, .slice B m.Cells.length c]]) k_call_50 rfl (mc rfl mn) (c_impl_Adjoint m B c m.Cells.length _ rfl (hS3.inn0 [(true, 0)] rfl) hc1)) ?_
  rintro _ w_4 ⟨B2, c2, rfl, hd1⟩
  have hS6 := hS3.out0 hd1
  have hS6 : ST w0 [] _ [⟨aD b, 38, [vi m.Rows, vi m.Cols, .slice B m.Cells.length c], 3⟩, ⟨aD b1, 34, [.slice none 0 0], 1⟩, ⟨B2, 44, (r_3.Cells.flatMap eN0), c2 * 5⟩] [⟨B, (m.Cells.flatMap eN0)⟩, ⟨(aD 0), [vi 1, vi 0, vi 0, vi 0, vi 2]⟩] := hS6
  refine sq 15 rfl rfl (Y_move (v := .tuple #[.agg #[vi r_3.Rows, vi r_3.Cols, .slice B2 r_3.Cells.length c2], .bool r_4]) rfl rfl) ?_
  refine sq 18 rfl rfl (Y_extract (v := .agg #[vi r_3.Rows, vi r_3.Cols, .slice B2 r_3.Cells.length c2]) rfl rfl rfl) ?_
  refine sq 19 rfl rfl (Y_extract (v := .bool r_4) rfl rfl rfl) ?_
  refine ss 4 rfl rfl (Ys_alloc (T := 38) (cs := [vi 0, vi 0, .slice none 0 0]) (m := 3) hS6 k_zero_38 rfl rfl rfl) ?_
  rintro _ w_5 ⟨b2, rfl, hS7⟩
  have hS7 : ST w0 [] _ [⟨aD b, 38, [vi m.Rows, vi m.Cols, .slice B m.Cells.length c], 3⟩, ⟨aD b1, 34, [.slice none 0 0], 1⟩, ⟨B2, 44, (r_3.Cells.flatMap eN0), c2 * 5⟩, ⟨aD b2, 38, [vi 0, vi 0, .slice none 0 0], 3⟩] [⟨B, (m.Cells.flatMap eN0)⟩, ⟨(aD 0), [vi 1, vi 0, vi 0, vi 0, vi 2]⟩] := hS7
  refine ss0 rfl rfl (Ys_store (i := 3) (s := 3) (B := aD b2) (T' := 38) (v := .agg #[vi r_3.Rows, vi r_3.Cols, .slice B2 r_3.Cells.length c2]) (vs := [vi r_3.Rows, vi r_3.Cols, .slice B2 r_3.Cells.length c2]) (k := 0) (cs' := [vi r_3.Rows, vi r_3.Cols, .slice B2 r_3.Cells.length c2]) hS7 k_sz_38_3 rfl rfl rfl rfl rfl rfl rfl (Nat.le_of_ble_eq_true rfl) rfl rfl) ?_
  rintro _ w_6 ⟨rfl, hS8⟩
  have hS8 : ST w0 [] _ [⟨aD b, 38, [vi m.Rows, vi m.Cols, .slice B m.Cells.length c], 3⟩, ⟨aD b1, 34, [.slice none 0 0], 1⟩, ⟨B2, 44, (r_3.Cells.flatMap eN0), c2 * 5⟩, ⟨aD b2, 38, [vi r_3.Rows, vi r_3.Cols, .slice B2 r_3.Cells.length c2], 3⟩] [⟨B, (m.Cells.flatMap eN0)⟩, ⟨(aD 0), [vi 1, vi 0, vi 0, vi 0, vi 2]⟩] := hS8
  refine sq 5 rfl rfl (Y_assign (v := .bool r_4) rfl rfl) ?_
  refine rw_nil ?_
  refine cw_seq ?_
  refine cw_region ?_
  refine sq 20 rfl rfl (Y_buildS (zs := [.slice none 0 0]) (vs := []) (cs := [.slice none 0 0]) k_pl_34 k_zero_34 rfl mpn rfl) ?_
  refine ss 6 rfl rfl (Ys_alloc (T := 34) (cs := [.slice none 0 0]) (m := 1) hS8 k_zero_34 rfl rfl rfl) ?_
  rintro _ w_7 ⟨b3, rfl, hS9⟩
  have hS9 : ST w0 [] _ [⟨aD b, 38, [vi m.Rows, vi m.Cols, .slice B m.Cells.length c], 3⟩, ⟨aD b1, 34, [.slice none 0 0], 1⟩, ⟨B2, 44, (r_3.Cells.flatMap eN0), c2 * 5⟩, ⟨aD b2, 38, [vi r_3.Rows, vi r_3.Cols, .slice B2 r_3.Cells.length c2], 3⟩, ⟨aD b3, 34, [.slice none 0 0], 1⟩] [⟨B, (m.Cells.flatMap eN0)⟩, ⟨(aD 0), [vi 1, vi 0, vi 0, vi 0, vi 2]⟩] := hS9
  refine ss0 rfl rfl (Ys_store (i := 4) (s := 1) (B := aD b3) (T' := 34) (v := .agg #[.slice none 0 0]) (vs := [.slice none 0 0]) (k := 0) (cs' := [.slice none 0 0]) hS9 k_sz_34_1 rfl rfl rfl rfl rfl rfl rfl (Nat.le_of_ble_eq_true rfl) rfl rfl) ?_
  rintro _ w_8 ⟨rfl, hS10⟩
  have hS10 : ST w0 [] _ [⟨aD b, 38, [vi m.Rows, vi m.Cols, .slice B m.Cells.length c], 3⟩, ⟨aD b1, 34, [.slice none 0 0], 1⟩, ⟨B2, 44, (r_3.Cells.flatMap eN0), c2 * 5⟩, ⟨aD b2, 38, [vi r_3.Rows, vi r_3.Cols, .slice B2 r_3.Cells.length c2], 3⟩, ⟨aD b3, 34, [.slice none 0 0], 1⟩] [⟨B, (m.Cells.flatMap eN0)⟩, ⟨(aD 0), [vi 1, vi 0, vi 0, vi 0, vi 2]⟩] := hS10
  refine rw_nil ?_
  refine cw_seq ?_
  refine cw_seq ?_
  refine cw_region ?_
  refine sq 21 rfl rfl (Y_move (v := vi 0) rfl rfl) ?_
  refine rw_nil ?_
  obtain ⟨z, hz, hF3⟩ := bind_inv hF2
  have hS12 := hS10.addNil 44
  refine cw_block ?_
  refine cw_loop (fun k f w => ∃ (i : Nat) (Cells : List TDyadic) (B3 : Option Addr) (c3 : Nat), FF f [(1, pt (aD b) 0), (2, pt (aD b1) 0), (4, pt (aD b2) 0), (6, pt (aD b3) 0), (21, vi (i : Int))] ∧ ST w0 [] w [⟨aD b, 38, [vi m.Rows, vi m.Cols, .slice B m.Cells.length c], 3⟩, ⟨aD b1, 34, [.slice none 0 0], 1⟩, ⟨aD b2, 38, [vi r_3.Rows, vi r_3.Cols, .slice B2 r_3.Cells.length c2], 3⟩, ⟨B2, 44, (r_3.Cells.flatMap eN0), c2 * 5⟩, ⟨aD b3, 34, [.slice B3 Cells.length c3], 1⟩, ⟨B3, 44, (Cells.flatMap eN0), c3 * 5⟩] [⟨B, (m.Cells.flatMap eN0)⟩, ⟨(aD 0), [vi 1, vi 0, vi 0, vi 0, vi 2]⟩] ∧ i + k = 3 ∧ forX (F_impl_BlochOf_l1 m r_3) k i Cells = some z) 3 ⟨0, [], none, 0, (FF.cons rfl (FF.cons rfl (FF.cons rfl (FF.cons rfl (FF.cons rfl FF.nil))))), (hS12.sel [0, 1, 3, 2, 4, 5] rfl rfl), Nat.zero_add _, hz⟩ ?_
  rintro k_ f w ⟨i, Cells, B3, c3, hf, hS11, hik, hL⟩
  refine cw_seq ?_
  refine cw_region ?_
  refine sq 22 rfl rfl (Y_lt (k := .i64) (a := (i : Int)) (b := 3) rfl (hf.get 21 4 rfl) rfl) ?_
  refine rw_nil ?_
  refine cw_seq ?_
  refine cw_cond (b := (decide ((i : Int) < 3))) rfl (fun hlt => ?_) (fun hlt => ?_)
  ·skip
   have hlt1 : i < 3 := by have h := of_decide_eq_true hlt; omega
   obtain ⟨k_1, rfl⟩ : ∃ k2, k_ = k2 + 1 := ⟨k_ - 1, by omega⟩
   obtain ⟨y, hb1, hL1⟩ := forX_go hL
   unfold F_impl_BlochOf_l1 at hb1
   refine cw_skip ?_
   refine cw_seq ?_
   refine cw_block ?_
   refine cw_seq ?_
   refine cw_region ?_
   refine sq 23 rfl rfl (Y_move (v := vi (i : Int)) rfl (hf.get 21 4 rfl)) ?_
   refine sq 7 rfl rfl (Y_assign (v := vi (i : Int)) rfl rfl) ?_
   refine rw_nil ?_
   refine cw_seq ?_
   refine cw_region ?_
   refine sq 24 rfl rfl (Y_move (v := vi 0) rfl rfl) ?_
   refine rw_nil ?_
   obtain ⟨z1, hz1, hF4⟩ := bind_inv hb1
   refine cw_block ?_
   refine cw_loop (fun k f w => ∃ (i1 : Nat) (Cells1 : List TDyadic) (B4 : Option Addr) (c4 : Nat), FF f [(1, pt (aD b) 0), (2, pt (aD b1) 0), (4, pt (aD b2) 0), (6, pt (aD b3) 0), (7, vi (i : Int)), (21, vi (i : Int)), (24, vi (i1 : Int))] ∧ ST w0 [] w [⟨aD b, 38, [vi m.Rows, vi m.Cols, .slice B m.Cells.length c], 3⟩, ⟨aD b1, 34, [.slice none 0 0], 1⟩, ⟨aD b2, 38, [vi r_3.Rows, vi r_3.Cols, .slice B2 r_3.Cells.length c2], 3⟩, ⟨B2, 44, (r_3.Cells.flatMap eN0), c2 * 5⟩, ⟨aD b3, 34, [.slice B4 Cells1.length c4], 1⟩, ⟨B4, 44, (Cells1.flatMap eN0), c4 * 5⟩] [⟨B, (m.Cells.flatMap eN0)⟩, ⟨(aD 0), [vi 1, vi 0, vi 0, vi 0, vi 2]⟩] ∧ i1 + k = 3 ∧ forX (F_impl_BlochOf_l2 m r_3 i) k i1 Cells1 = some z1) 3 ⟨0, Cells, B3, c3, (FF.cons (hf.get 1 0 rfl) (FF.cons (hf.get 2 1 rfl) (FF.cons (hf.get 4 2 rfl) (FF.cons (hf.get 6 3 rfl) (FF.cons rfl (FF.cons (hf.get 21 4 rfl) (FF.cons rfl FF.nil))))))), (hS11.sel [0, 1, 2, 3, 4, 5] rfl rfl), Nat.zero_add _, hz1⟩ ?_
   rintro k_2 f w ⟨i1, Cells1, B4, c4, hf1, hS13, hik1, hL2⟩
   refine cw_seq ?_
   refine cw_region ?_
   refine sq 25 rfl rfl (Y_lt (k := .i64) (a := (i1 : Int)) (b := 3) rfl (hf1.get 24 6 rfl) rfl) ?_
   refine rw_nil ?_
   refine cw_seq ?_
   refine cw_cond (b := (decide ((i1 : Int) < 3))) rfl (fun hlt2 => ?_) (fun hlt2 => ?_)
   ·skip
    have hlt3 : i1 < 3 := by have h := of_decide_eq_true hlt2; omega
    obtain ⟨k_3, rfl⟩ : ∃ k2, k_2 = k2 + 1 := ⟨k_2 - 1, by omega⟩
    obtain ⟨y1, hb2, hL3⟩ := forX_go hL2
    unfold F_impl_BlochOf_l2 at hb2
    refine cw_skip ?_
    refine cw_seq ?_
    refine cw_block ?_
    refine cw_seq ?_
    refine cw_region ?_
    refine sq 26 rfl rfl (Y_move (v := vi (i1 : Int)) rfl (hf1.get 24 6 rfl)) ?_
    refine sq 8 rfl rfl (Y_assign (v := vi (i1 : Int)) rfl rfl) ?_
    refine rw_nil ?_
    refine cw_seq ?_
    refine cw_region ?_
    refine sq 28 rfl rfl (Y_loadA (B := aD b) (i := 0) (cs := [vi m.Rows, vi m.Cols, .slice B m.Cells.length c]) (vs := [vi m.Rows, vi m.Cols, .slice B m.Cells.length c]) k_ag_38 k_sz_38_3 rfl (hf1.get 1 0 rfl) (hS13.cf (i := 0) rfl) rfl rfl) ?_
    refine sq 29 rfl rfl (Y_loadA (B := aD b2) (i := 0) (cs := [vi r_3.Rows, vi r_3.Cols, .slice B2 r_3.Cells.length c2]) (vs := [vi r_3.Rows, vi r_3.Cols, .slice B2 r_3.Cells.length c2]) k_ag_38 k_sz_38_3 rfl (hf1.get 4 2 rfl) (hS13.cf (i := 2) rfl) rfl rfl) ?_
    refine sq 30 rfl rfl (Y_move (v := vi (i : Int)) rfl (hf1.get 7 4 rfl)) ?_
    refine sq 31 rfl rfl (Y_move (v := vi (i1 : Int)) rfl rfl) ?_
    obtain ⟨⟨r_5, r_6⟩, hc2, hb2⟩ := bind_inv hb2
    refine sc 32 rfl rfl (Yc_func (g := 51) (vs := [.agg #[vi m.Rows, vi m.Cols, .slice B m.Cells.length c], .agg #[vi r_3.Rows, vi r_3.Cols, .slice B2 r_3.Cells.length c2], vi (i : Int), vi (i1 : Int)]) k_call_51 rfl (mc rfl (mc rfl (mc rfl (mc rfl mn)))) (c_impl_blochCell m r_3 (i : Int) (i1 : Int) B c m.Cells.length B2 c2 r_3.Cells.length _ rfl rfl (hS13.inn0 [(true, 0), (false, 3), (true, 1)] rfl) hc2)) ?_
    rintro _ w_9 ⟨rfl, hd2⟩
    have hS14 := hS13.out00 hd2
    have hS14 : ST w0 [] _ [⟨aD b, 38, [vi m.Rows, vi m.Cols, .slice B m.Cells.length c], 3⟩, ⟨aD b1, 34, [.slice none 0 0], 1⟩, ⟨aD b2, 38, [vi r_3.Rows, vi r_3.Cols, .slice B2 r_3.Cells.length c2], 3⟩, ⟨B2, 44, (r_3.Cells.flatMap eN0), c2 * 5⟩, ⟨aD b3, 34, [.slice B4 Cells1.length c4], 1⟩, ⟨B4, 44, (Cells1.flatMap eN0), c4 * 5⟩] [⟨B, (m.Cells.flatMap eN0)⟩, ⟨(aD 0), [vi 1, vi 0, vi 0, vi 0, vi 2]⟩] := hS14
    refine sq 27 rfl rfl (Y_move (v := .tuple #[.agg #[vi r_5.Num.A, vi r_5.Num.B, vi r_5.Num.C, vi r_5.Num.D, vi r_5.Exp], .bool r_6]) rfl rfl) ?_
    refine sq 33 rfl rfl (Y_extract (v := .agg #[vi r_5.Num.A, vi r_5.Num.B, vi r_5.Num.C, vi r_5.Num.D, vi r_5.Exp]) rfl rfl rfl) ?_
    refine sq 34 rfl rfl (Y_extract (v := .bool r_6) rfl rfl rfl) ?_
    refine ss 9 rfl rfl (Ys_alloc (T := 44) (cs := [vi 0, vi 0, vi 0, vi 0, vi 0]) (m := 5) hS14 k_zero_44 rfl rfl rfl) ?_
    rintro _ w_10 ⟨b4, rfl, hS15⟩
    have hS15 : ST w0 [] _ [⟨aD b, 38, [vi m.Rows, vi m.Cols, .slice B m.Cells.length c], 3⟩, ⟨aD b1, 34, [.slice none 0 0], 1⟩, ⟨aD b2, 38, [vi r_3.Rows, vi r_3.Cols, .slice B2 r_3.Cells.length c2], 3⟩, ⟨B2, 44, (r_3.Cells.flatMap eN0), c2 * 5⟩, ⟨aD b3, 34, [.slice B4 Cells1.length c4], 1⟩, ⟨B4, 44, (Cells1.flatMap eN0), c4 * 5⟩, ⟨aD b4, 44, [vi 0, vi 0, vi 0, vi 0, vi 0], 5⟩] [⟨B, (m.Cells.flatMap eN0)⟩, ⟨(aD 0), [vi 1, vi 0, vi 0, vi 0, vi 2]⟩] := hS15
    refine ss0 rfl rfl (Ys_store (i := 6) (s := 5) (B := aD b4) (T' := 44) (v := .agg #[vi r_5.Num.A, vi r_5.Num.B, vi r_5.Num.C, vi r_5.Num.D, vi r_5.Exp]) (vs := [vi r_5.Num.A, vi r_5.Num.B, vi r_5.Num.C, vi r_5.Num.D, vi r_5.Exp]) (k := 0) (cs' := [vi r_5.Num.A, vi r_5.Num.B, vi r_5.Num.C, vi r_5.Num.D, vi r_5.Exp]) hS15 k_sz_44_5 rfl rfl rfl rfl rfl rfl rfl (Nat.le_of_ble_eq_true rfl) rfl rfl) ?_
    rintro _ w_11 ⟨rfl, hS16⟩
    have hS16 : ST w0 [] _ [⟨aD b, 38, [vi m.Rows, vi m.Cols, .slice B m.Cells.length c], 3⟩, ⟨aD b1, 34, [.slice none 0 0], 1⟩, ⟨aD b2, 38, [vi r_3.Rows, vi r_3.Cols, .slice B2 r_3.Cells.length c2], 3⟩, ⟨B2, 44, (r_3.Cells.flatMap eN0), c2 * 5⟩, ⟨aD b3, 34, [.slice B4 Cells1.length c4], 1⟩, ⟨B4, 44, (Cells1.flatMap eN0), c4 * 5⟩, ⟨aD b4, 44, [vi r_5.Num.A, vi r_5.Num.B, vi r_5.Num.C, vi r_5.Num.D, vi r_5.Exp], 5⟩] [⟨B, (m.Cells.flatMap eN0)⟩, ⟨(aD 0), [vi 1, vi 0, vi 0, vi 0, vi 2]⟩] := hS16
    refine sq 10 rfl rfl (Y_assign (v := .bool r_6) rfl rfl) ?_
    refine rw_nil ?_
    refine cw_seq ?_
    refine cw_seq ?_
    refine cw_region ?_
    refine sq 35 rfl rfl (Y_move (v := .bool r_6) rfl rfl) ?_
    refine sq 36 rfl rfl (Y_not (p := r_6) rfl rfl) ?_
    refine rw_nil ?_
    refine cw_cond (b := (!r_6)) rfl (fun hb3 => ?_) (fun hb3 => ?_)
    ·skip
     have hF5 := ct hb2 hb3
     refine cw_seq ?_
     refine cw_region ?_
     refine sq 37 rfl rfl (Y_buildS (zs := [.slice none 0 0]) (vs := []) (cs := [.slice none 0 0]) k_pl_34 k_zero_34 rfl mpn rfl) ?_
     refine ss0 rfl rfl (Ys_store (i := 1) (s := 1) (B := aD b1) (T' := 34) (v := .agg #[.slice none 0 0]) (vs := [.slice none 0 0]) (k := 0) (cs' := [.slice none 0 0]) hS16 k_sz_34_1 rfl (hf1.get 2 1 rfl) rfl rfl rfl rfl rfl (Nat.le_of_ble_eq_true rfl) rfl rfl) ?_
     rintro _ w_12 ⟨rfl, hS17⟩
     have hS17 : ST w0 [] _ [⟨aD b, 38, [vi m.Rows, vi m.Cols, .slice B m.Cells.length c], 3⟩, ⟨aD b1, 34, [.slice none 0 0], 1⟩, ⟨aD b2, 38, [vi r_3.Rows, vi r_3.Cols, .slice B2 r_3.Cells.length c2], 3⟩, ⟨B2, 44, (r_3.Cells.flatMap eN0), c2 * 5⟩, ⟨aD b3, 34, [.slice B4 Cells1.length c4], 1⟩, ⟨B4, 44, (Cells1.flatMap eN0), c4 * 5⟩, ⟨aD b4, 44, [vi r_5.Num.A, vi r_5.Num.B, vi r_5.Num.C, vi r_5.Num.D, vi r_5.Exp], 5⟩] [⟨B, (m.Cells.flatMap eN0)⟩, ⟨(aD 0), [vi 1, vi 0, vi 0, vi 0, vi 2]⟩] := hS17
     refine sq 3 rfl rfl (Y_assign (v := .bool false) rfl rfl) ?_
     refine rw_nil ?_
     refine cw_ret ?_
     have hS18 := hS17.addNil 44
     obtain rfl := some_inj hF5
     obtain rfl := some_inj hL3
     obtain rfl := some_inj hF4
     obtain rfl := some_inj hL1
     obtain ⟨rfl, rfl⟩ := pr2 (some_inj hF3)
     exact ret2 Tryd.results27 (v1 := .agg #[.slice none 0 0]) (resAt_cellA (B := aD b1) (i := 0) (cs := [.slice none 0 0]) (vs := [.slice none 0 0]) (hf1.get 2 1 rfl) k_ag_34 k_sz_34_1 (hS18.cf (i := 1) rfl) rfl rfl) (v2 := .bool false) (resAt_tmp rfl) ⟨none, 0, rfl, (ST.subR (R' := []) (hS18.sel [7] rfl rfl) (fun _ h => by cases h))⟩
    ·skip
     have hF6 := cf' hb2 hb3
     refine cw_skip ?_
     refine cw_region ?_
     refine sq 38 rfl rfl (Y_fieldAddr (B := aD b3) (i := 0) (s := 0) k_fd_34_0_0_32 k_sz_32_1 rfl (hf1.get 6 3 rfl)) ?_
     refine sq 39 rfl rfl (Y_load1 (B := aD b3) (i := 0) (cs := [.slice B4 Cells1.length c4]) (v := .slice B4 Cells1.length c4) k_sc_32 rfl rfl (hS16.cf (i := 4) rfl) rfl) ?_
     refine sq 40 rfl rfl (Y_loadA (B := aD b4) (i := 0) (cs := [vi r_5.Num.A, vi r_5.Num.B, vi r_5.Num.C, vi r_5.Num.D, vi r_5.Exp]) (vs := [vi r_5.Num.A, vi r_5.Num.B, vi r_5.Num.C, vi r_5.Num.D, vi r_5.Exp]) k_ag_44 k_sz_44_5 rfl rfl (hS16.cf (i := 6) rfl) rfl rfl) ?_
     refine ss 41 rfl rfl (Ys_bslice (s := 5) (len := 1) (vs := [(0, .agg #[vi r_5.Num.A, vi r_5.Num.B, vi r_5.Num.C, vi r_5.Num.D, vi r_5.Exp])]) (cs := [vi r_5.Num.A, vi r_5.Num.B, vi r_5.Num.C, vi r_5.Num.D, vi r_5.Exp]) (zs := [vi 0, vi 0, vi 0, vi 0, vi 0]) (m := 5) hS16 k_sl_32_44 k_sz_44_5 k_zc_44 rfl (mpc rfl mpn) rfl rfl rfl (by kernel_rfl) (by kernel_rfl) rfl) ?_
     rintro _ w_13 ⟨b5, rfl, hS19⟩
     have hS19 : ST w0 [] _ [⟨aD b, 38, [vi m.Rows, vi m.Cols, .slice B m.Cells.length c], 3⟩, ⟨aD b1, 34, [.slice none 0 0], 1⟩, ⟨aD b2, 38, [vi r_3.Rows, vi r_3.Cols, .slice B2 r_3.Cells.length c2], 3⟩, ⟨B2, 44, (r_3.Cells.flatMap eN0), c2 * 5⟩, ⟨aD b3, 34, [.slice B4 Cells1.length c4], 1⟩, ⟨B4, 44, (Cells1.flatMap eN0), c4 * 5⟩, ⟨aD b4, 44, [vi r_5.Num.A, vi r_5.Num.B, vi r_5.Num.C, vi r_5.Num.D, vi r_5.Exp], 5⟩, ⟨aD b5, 44, ([r_5].flatMap eN0), 1 * 5⟩] [⟨B, (m.Cells.flatMap eN0)⟩, ⟨(aD 0), [vi 1, vi 0, vi 0, vi 0, vi 2]⟩] := hS19
     obtain ⟨hap, hF6⟩ := chk_inv hF6
     refine ss 42 rfl rfl (Ys_append (s := 5) (by' := 40) (i := 5) (nn := Cells1.length) (c := c4) (k := 1) (len := (Cells1 ++ [r_5]).length) (B := B4) (xs := ([r_5].flatMap eN0)) (cs' := ((Cells1 ++ [r_5]).flatMap eN0)) hS19 k_sl_32_44 k_sz_44_5 k_by_44_40 k_zero_44 rfl (by decide) rfl rfl rfl rfl (fm_lenn (l := Cells1) eN3 rfl) rfl (hS19.cf (i := 7) rfl) (fm_lenn (l := [r_5]) eN3 rfl) (fm_one' (enc := eN0) enc_Dyadic_one [r_5]) (by have := hap; omega) (by have := hap; simp only [maxLen]; omega) (fm_app _ _) (app_len (l := Cells1) (l' := [r_5]) rfl rfl)) ?_
     rintro _ w_14 ⟨B5, c5, rfl, hS20⟩
     have hS20 : ST w0 [] _ [⟨aD b, 38, [vi m.Rows, vi m.Cols, .slice B m.Cells.length c], 3⟩, ⟨aD b1, 34, [.slice none 0 0], 1⟩, ⟨aD b2, 38, [vi r_3.Rows, vi r_3.Cols, .slice B2 r_3.Cells.length c2], 3⟩, ⟨B2, 44, (r_3.Cells.flatMap eN0), c2 * 5⟩, ⟨aD b3, 34, [.slice B4 Cells1.length c4], 1⟩, ⟨B5, 44, ((Cells1 ++ [r_5]).flatMap eN0), c5 * 5⟩, ⟨aD b4, 44, [vi r_5.Num.A, vi r_5.Num.B, vi r_5.Num.C, vi r_5.Num.D, vi r_5.Exp], 5⟩, ⟨aD b5, 44, ([r_5].flatMap eN0), 1 * 5⟩] [⟨B, (m.Cells.flatMap eN0)⟩, ⟨(aD 0), [vi 1, vi 0, vi 0, vi 0, vi 2]⟩] := hS20
     refine sq 43 rfl rfl (Y_fieldAddr (B := aD b3) (i := 0) (s := 0) k_fd_34_0_0_32 k_sz_32_1 rfl (hf1.get 6 3 rfl)) ?_
     refine ss0 rfl rfl (Ys_store (i := 4) (s := 1) (B := aD b3) (T' := 34) (v := .slice B5 ((Cells1 ++ [r_5]).length) c5) (vs := [.slice B5 ((Cells1 ++ [r_5]).length) c5]) (k := 0) (cs' := [.slice B5 ((Cells1 ++ [r_5]).length) c5]) hS20 k_sz_32_1 rfl rfl rfl rfl rfl rfl rfl (Nat.le_of_ble_eq_true rfl) rfl rfl) ?_
     rintro _ w_15 ⟨rfl, hS21⟩
     have hS21 : ST w0 [] _ [⟨aD b, 38, [vi m.Rows, vi m.Cols, .slice B m.Cells.length c], 3⟩, ⟨aD b1, 34, [.slice none 0 0], 1⟩, ⟨aD b2, 38, [vi r_3.Rows, vi r_3.Cols, .slice B2 r_3.Cells.length c2], 3⟩, ⟨B2, 44, (r_3.Cells.flatMap eN0), c2 * 5⟩, ⟨aD b3, 34, [.slice B5 ((Cells1 ++ [r_5]).length) c5], 1⟩, ⟨B5, 44, ((Cells1 ++ [r_5]).flatMap eN0), c5 * 5⟩, ⟨aD b4, 44, [vi r_5.Num.A, vi r_5.Num.B, vi r_5.Num.C, vi r_5.Num.D, vi r_5.Exp], 5⟩, ⟨aD b5, 44, ([r_5].flatMap eN0), 1 * 5⟩] [⟨B, (m.Cells.flatMap eN0)⟩, ⟨(aD 0), [vi 1, vi 0, vi 0, vi 0, vi 2]⟩] := hS21
     refine rw_nil ?_
     refine cw_region ?_
     refine sq 44 rfl rfl (Y_add (k := .i64) (a := (i1 : Int)) (b := 1) rfl (hf1.get 24 6 rfl) rfl) ?_
     refine sq 24 rfl rfl (Y_move (v := vi (i64.wrap ((i1 : Int) + 1))) rfl rfl) ?_
     refine rw_nil ?_
     obtain rfl := some_inj hF6
     exact ⟨k_3, Nat.lt_succ_self _, i1 + 1, (Cells1 ++ [r_5]), B5, c5, (FF.cons (hf1.get 1 0 rfl) (FF.cons (hf1.get 2 1 rfl) (FF.cons (hf1.get 4 2 rfl) (FF.cons (hf1.get 6 3 rfl) (FF.cons (hf1.get 7 4 rfl) (FF.cons (hf1.get 21 5 rfl) (FF.cons (congrArg (Value.int .i64) (wr_succ hlt3 (show 3 ≤ 9223372036854775807 by decide))) FF.nil))))))), (hS21.sel [0, 1, 2, 3, 4, 5] rfl rfl), (by omega), hL3⟩
   ·skip
    obtain rfl : k_2 = 0 := by have h := of_decide_eq_false hlt2; omega
    refine cw_exit rfl ?_
    obtain rfl := some_inj hL2
    refine cw_region ?_
    refine sq 45 rfl rfl (Y_add (k := .i64) (a := (i : Int)) (b := 1) rfl (hf1.get 21 5 rfl) rfl) ?_
    refine sq 21 rfl rfl (Y_move (v := vi (i64.wrap ((i : Int) + 1))) rfl rfl) ?_
    refine rw_nil ?_
    obtain rfl := some_inj hF4
    exact ⟨k_1, Nat.lt_succ_self _, i + 1, Cells1, B4, c4, (FF.cons (hf1.get 1 0 rfl) (FF.cons (hf1.get 2 1 rfl) (FF.cons (hf1.get 4 2 rfl) (FF.cons (hf1.get 6 3 rfl) (FF.cons (congrArg (Value.int .i64) (wr_succ hlt1 (show 3 ≤ 9223372036854775807 by decide))) FF.nil))))), (hS13.sel [0, 1, 2, 3, 4, 5] rfl rfl), (by omega), hL1⟩
  ·skip
   obtain rfl : k_ = 0 := by have h := of_decide_eq_false hlt; omega
   refine cw_exit rfl ?_
   obtain rfl := some_inj hL
   refine cw_seq ?_
   refine cw_region ?_
   refine sq 46 rfl rfl (Y_loadA (B := aD b3) (i := 0) (cs := [.slice B3 Cells.length c3]) (vs := [.slice B3 Cells.length c3]) k_ag_34 k_sz_34_1 rfl (hf.get 6 3 rfl) (hS11.cf (i := 4) rfl) rfl rfl) ?_
   refine ss0 rfl rfl (Ys_store (i := 1) (s := 1) (B := aD b1) (T' := 34) (v := .agg #[.slice B3 Cells.length c3]) (vs := [.slice B3 Cells.length c3]) (k := 0) (cs' := [.slice B3 Cells.length c3]) hS11 k_sz_34_1 rfl (hf.get 2 1 rfl) rfl rfl rfl rfl rfl (Nat.le_of_ble_eq_true rfl) rfl rfl) ?_
   rintro _ w_16 ⟨rfl, hS22⟩
   have hS22 : ST w0 [] _ [⟨aD b, 38, [vi m.Rows, vi m.Cols, .slice B m.Cells.length c], 3⟩, ⟨aD b1, 34, [.slice B3 Cells.length c3], 1⟩, ⟨aD b2, 38, [vi r_3.Rows, vi r_3.Cols, .slice B2 r_3.Cells.length c2], 3⟩, ⟨B2, 44, (r_3.Cells.flatMap eN0), c2 * 5⟩, ⟨aD b3, 34, [.slice B3 Cells.length c3], 1⟩, ⟨B3, 44, (Cells.flatMap eN0), c3 * 5⟩] [⟨B, (m.Cells.flatMap eN0)⟩, ⟨(aD 0), [vi 1, vi 0, vi 0, vi 0, vi 2]⟩] := hS22
   refine sq 3 rfl rfl (Y_assign (v := .bool true) rfl rfl) ?_
   refine rw_nil ?_
   refine cw_ret ?_
   obtain ⟨rfl, rfl⟩ := pr2 (some_inj hF3)
   exact ret2 Tryd.results27 (v1 := .agg #[.slice B3 Cells.length c3]) (resAt_cellA (B := aD b1) (i := 0) (cs := [.slice B3 Cells.length c3]) (vs := [.slice B3 Cells.length c3]) (hf.get 2 1 rfl) k_ag_34 k_sz_34_1 (hS22.cf (i := 1) rfl) rfl rfl) (v2 := .bool true) (resAt_tmp rfl) ⟨B3, c3, rfl, (ST.subR (R' := []) (hS22.sel [5] rfl rfl) (fun _ h => by cases h))⟩

theorem c_impl_blochGate (kind : Int)  (w0 : World)  (hS : ST w0 [] w0 [] [⟨(aD 0), [vi 1, vi 0, vi 0, vi 0, vi 2]⟩]) {r_ : TBloch} (hF : F_impl_blochGate kind = some r_) :
  CV Tryd.prog 15 #[vi kind] w0 (fun v w' => ∃ (B : Option Addr) (c : Nat), v = .agg #[.slice B r_.Cells.length c] ∧ ST w0 [] w' [⟨B, 44, (r_.Cells.flatMap eN0), c * 5⟩] []) := by
 unfold F_impl_blochGate at hF
 refine cv_of_cw 19 Tryd.func15 rfl Tryd.ntmps15 rfl ?_
 refine cw_seq ?_
 refine cw_region ?_
 refine ss 2 rfl rfl (Ys_alloc (T := 34) (cs := [.slice none 0 0]) (m := 1) hS k_zero_34 rfl rfl rfl) ?_
 rintro _ w_ ⟨b, rfl, hS1⟩
 refine rw_nil ?_
 refine cw_seq ?_
 refine cw_region ?_
 refine sq 8 rfl rfl (Y_move (v := vi kind) rfl rfl) ?_
 refine sq 9 rfl rfl (Y_buildS (zs := [vi 0, vi 0, vi 0]) (vs := [(0, vi kind)]) (cs := [vi kind, vi 0, vi 0]) k_pl_64 k_zero_64 rfl (mpc rfl mpn) rfl) ?_
 obtain ⟨⟨r_1, r_2⟩, hc, hF⟩ := bind_inv hF
 refine sc 10 rfl rfl (Yc_func (g := 26) (vs := [vi 1, .agg #[vi kind, vi 0, vi 0]]) k_call_26 rfl (mc rfl (mc rfl mn)) (c_impl_GateMatrix 1 (TGate.mk kind 0 0) _  (hS1.inn0 [] rfl) hc)) ?_
 rintro _ w_1 ⟨B1, c1, rfl, hd⟩
 have hS2 := hS1.out0 hd
 have hS2 : ST w0 [] _ [⟨aD b, 34, [.slice none 0 0], 1⟩, ⟨B1, 44, (r_1.Cells.flatMap eN0), c1 * 5⟩] [⟨(aD 0), [vi 1, vi 0, vi 0, vi 0, vi 2]⟩] := hS2
 refine sq 7 rfl rfl (Y_move (v := .tuple #[.agg #[vi r_1.Rows, vi r_1.Cols, .slice B1 r_1.Cells.length c1], .bool r_2]) rfl rfl) ?_
 refine sq 11 rfl rfl (Y_extract (v := .agg #[vi r_1.Rows, vi r_1.Cols, .slice B1 r_1.Cells.length c1]) rfl rfl rfl) ?_
 refine sq 12 rfl rfl (Y_extract (v := .bool r_2) rfl rfl rfl) ?_
 refine ss 3 rfl rfl (Ys_alloc (T := 38) (cs := [vi 0, vi 0, .slice none 0 0]) (m := 3) hS2 k_zero_38 rfl rfl rfl) ?_
 rintro _ w_2 ⟨b1, rfl, hS3⟩
 have hS3 : ST w0 [] _ [⟨aD b, 34, [.slice none 0 0], 1⟩, ⟨B1, 44, (r_1.Cells.flatMap eN0), c1 * 5⟩, ⟨aD b1, 38, [vi 0, vi 0, .slice none 0 0], 3⟩] [⟨(aD 0), [vi 1, vi 0, vi 0, vi 0, vi 2]⟩] := hS3
 refine ss0 rfl rfl (Ys_store (i := 2) (s := 3) (B := aD b1) (T' := 38) (v := .agg #[vi r_1.Rows, vi r_1.Cols, .slice B1 r_1.Cells.length c1]) (vs := [vi r_1.Rows, vi r_1.Cols, .slice B1 r_1.Cells.length c1]) (k := 0) (cs' := [vi r_1.Rows, vi r_1.Cols, .slice B1 r_1.Cells.length c1]) hS3 k_sz_38_3 rfl rfl rfl rfl rfl rfl rfl (Nat.le_of_ble_eq_true rfl) rfl rfl) ?_
 rintro _ w_3 ⟨rfl, hS4⟩
 have hS4 : ST w0 [] _ [⟨aD b, 34, [.slice none 0 0], 1⟩, ⟨B1, 44, (r_1.Cells.flatMap eN0), c1 * 5⟩, ⟨aD b1, 38, [vi r_1.Rows, vi r_1.Cols, .slice B1 r_1.Cells.length c1], 3⟩] [⟨(aD 0), [vi 1, vi 0, vi 0, vi 0, vi 2]⟩] := hS4
 refine sq 4 rfl rfl (Y_assign (v := .bool r_2) rfl rfl) ?_
 refine rw_nil ?_
 refine cw_seq ?_
 refine cw_region ?_
 refine sq 14 rfl rfl (Y_loadA (B := aD b1) (i := 0) (cs := [vi r_1.Rows, vi r_1.Cols, .slice B1 r_1.Cells.length c1]) (vs := [vi r_1.Rows, vi r_1.Cols, .slice B1 r_1.Cells.length c1]) k_ag_38 k_sz_38_3 rfl rfl (hS4.cf (i := 2) rfl) rfl rfl) ?_
 obtain ⟨⟨r_3, r_4⟩, hc1, hF⟩ := bind_inv hF
 refine sc 15 rfl rfl (Yc_func (g := 27) (vs := [.agg #[vi r_1.Rows, vi r_1.Cols, .slice B1 r_1.Cells.length c1]]) k_call_27 rfl (mc rfl mn) (c_impl_BlochOf r_1 B1 c1 r_1.Cells.length _ rfl (hS4.inn0 [(false, 1), (true, 0)] rfl) hc1)) ?_
 rintro _ w_4 ⟨B2, c2, rfl, hd1⟩
 have hS5 := hS4.out0 hd1
 have hS5 : ST w0 [] _ [⟨aD b, 34, [.slice none 0 0], 1⟩, ⟨B1, 44, (r_1.Cells.flatMap eN0), c1 * 5⟩, ⟨aD b1, 38, [vi r_1.Rows, vi r_1.Cols, .slice B1 r_1.Cells.length c1], 3⟩, ⟨B2, 44, (r_3.Cells.flatMap eN0), c2 * 5⟩] [⟨(aD 0), [vi 1, vi 0, vi 0, vi 0, vi 2]⟩] := hS5
 refine sq 13 rfl rfl (Y_move (v := .tuple #[.agg #[.slice B2 r_3.Cells.length c2], .bool r_4]) rfl rfl) ?_
 refine sq 16 rfl rfl (Y_extract (v := .agg #[.slice B2 r_3.Cells.length c2]) rfl rfl rfl) ?_
 refine sq 17 rfl rfl (Y_extract (v := .bool r_4) rfl rfl rfl) ?_
 refine ss 5 rfl rfl (Ys_alloc (T := 34) (cs := [.slice none 0 0]) (m := 1) hS5 k_zero_34 rfl rfl rfl) ?_
 rintro _ w_5 ⟨b2, rfl, hS6⟩
 have hS6 : ST w0 [] _ [⟨aD b, 34, [.slice none 0 0], 1⟩, ⟨B1, 44, (r_1.Cells.flatMap eN0), c1 * 5⟩, ⟨aD b1, 38, [vi r_1.Rows, vi r_1.Cols, .slice B1 r_1.Cells.length c1], 3⟩, ⟨B2, 44, (r_3.Cells.flatMap eN0), c2 * 5⟩, ⟨aD b2, 34, [.slice none 0 0], 1⟩] [⟨(aD 0), [vi 1, vi 0, vi 0, vi 0, vi 2]⟩] := hS6
 refine ss0 rfl rfl (Ys_store (i := 4) (s := 1) (B := aD b2) (T' := 34) (v := .agg #[.slice B2 r_3.Cells.length c2]) (vs := [.slice B2 r_3.Cells.length c2]) (k := 0) (cs' := [.slice B2 r_3.Cells.length c2]) hS6 k_sz_34_1 rfl rfl rfl rfl rfl rfl rfl (Nat.le_of_ble_eq_true rfl) rfl rfl) ?_
 rintro _ w_6 ⟨rfl, hS7⟩
 have hS7 : ST w0 [] _ [⟨aD b, 34, [.slice none 0 0], 1⟩, ⟨B1, 44, (r_1.Cells.flatMap eN0), c1 * 5⟩, ⟨aD b1, 38, [vi r_1.Rows, vi r_1.Cols, .slice B1 r_1.Cells.length c1], 3⟩, ⟨B2, 44, (r_3.Cells.flatMap eN0), c2 * 5⟩, ⟨aD b2, 34, [.slice B2 r_3.Cells.length c2], 1⟩] [⟨(aD 0), [vi 1, vi 0, vi 0, vi 0, vi 2]⟩] := hS7
 refine sq 6 rfl rfl (Y_assign (v := .bool r_4) rfl rfl) ?_
 refine rw_nil ?_
 refine cw_seq ?_
 refine cw_region ?_
 refine sq 18 rfl rfl (Y_loadA (B := aD b2) (i := 0) (cs := [.slice B2 r_3.Cells.length c2]) (vs := [.slice B2 r_3.Cells.length c2]) k_ag_34 k_sz_34_1 rfl rfl (hS7.cf (i := 4) rfl) rfl rfl) ?_
 refine ss0 rfl rfl (Ys_store (i := 0) (s := 1) (B := aD b) (T' := 34) (v := .agg #[.slice B2 r_3.Cells.length c2]) (vs := [.slice B2 r_3.Cells.length c2]) (k := 0) (cs' := [.slice B2 r_3.Cells.length c2]) hS7 k_sz_34_1 rfl rfl rfl rfl rfl rfl rfl (Nat.le_of_ble_eq_true rfl) rfl rfl) ?_
 rintro _ w_7 ⟨rfl, hS8⟩
 have hS8 : ST w0 [] _ [⟨aD b, 34, [.slice B2 r_3.Cells.length c2], 1⟩, ⟨B1, 44, (r_1.Cells.flatMap eN0), c1 * 5⟩, ⟨aD b1, 38, [vi r_1.Rows, vi r_1.Cols, .slice B1 r_1.Cells.length c1], 3⟩, ⟨B2, 44, (r_3.Cells.flatMap eN0), c2 * 5⟩, ⟨aD b2, 34, [.slice B2 r_3.Cells.length c2], 1⟩] [⟨(aD 0), [vi 1, vi 0, vi 0, vi 0, vi 2]⟩] := hS8
 refine rw_nil ?_
 refine cw_ret ?_
 obtain rfl := some_inj hF
 exact ret1 Tryd.results15 (v1 := .agg #[.slice B2 r_3.Cells.length c2]) (resAt_cellA (B := aD b) (i := 0) (cs := [.slice B2 r_3.Cells.length c2]) (vs := [.slice B2 r_3.Cells.length c2]) rfl k_ag_34 k_sz_34_1 (hS8.cf (i := 0) rfl) rfl rfl) ⟨B2, c2, rfl, (ST.subR (R' := []) (hS8.sel [3] rfl rfl) (fun _ h => by cases h))⟩

theorem c_impl_mulBloch (a : List TDyadic) (b : List TDyadic) (B : Option Addr) (c n : Nat) (B1 : Option Addr) (c1 n1 : Nat) (w0 : World) (hn : a.length = n) (hn1 : b.length = n1) (hS : ST w0 [] w0 [] [⟨B, (a.flatMap eN0)⟩, ⟨B1, (b.flatMap eN0)⟩]) {r_ : List TDyadic} {r_1 : Bool} (hF : F_impl_mulBloch a b = some (r_, r_1)) :
  CV Tryd.prog 16 #[.slice B n c, .slice B1 n1 c1] w0 (fun v w' => ∃ (B2 : Option Addr) (c2 : Nat), v = .tuple #[.slice B2 r_.length c2, .bool r_1] ∧ ST w0 [] w' [⟨B2, 44, (r_.flatMap eN0), c2 * 5⟩] []) := by
 subst hn
 subst hn1
 unfold F_impl_mulBloch at hF
 refine cv_of_cw 65 Tryd.func16 rfl Tryd.ntmps16 rfl ?_
 refine cw_seq ?_
 refine cw_region ?_
 refine sq 4 rfl rfl (Y_assign (v := .slice none 0 0) rfl rfl) ?_
 refine sq 5 rfl rfl (Y_assign (v := .bool false) rfl rfl) ?_
 refine rw_nil ?_
 refine cw_seq ?_
 refine cw_region ?_
 refine ss 15 rfl rfl (Ys_bslice0 (s := 5) (e := 44) hS k_sl_32_44 k_sz_44_5 rfl) ?_
 rintro _ w_ ⟨b1, rfl, hS1⟩
 refine sq 6 rfl rfl (Y_assign (v := .slice (aD b1) 0 0) rfl rfl) ?_
 refine rw_nil ?_
 refine cw_seq ?_
 refine cw_seq ?_
 refine cw_region ?_
 refine sq 16 rfl rfl (Y_move (v := vi 0) rfl rfl) ?_
 refine rw_nil ?_
 obtain ⟨z, hz, hF1⟩ := bind_inv hF
 refine cw_block ?_
 refine cw_loop (fun k f w => ∃ (i : Nat) (out : List TDyadic) (B3 : Option Addr) (c3 : Nat), FF f [(0, .slice B a.length c), (1, .slice B1 b.length c1), (6, .slice B3 out.length c3), (16, vi (i : Int))] ∧ ST w0 [] w [⟨B3, 44, (out.flatMap eN0), c3 * 5⟩] [⟨B, (a.flatMap eN0)⟩, ⟨B1, (b.flatMap eN0)⟩] ∧ i + k = 3 ∧ forX (F_impl_mulBloch_l1 a b) k i out = some z) 3 ⟨0, [], aD b1, 0, (FF.cons rfl (FF.cons rfl (FF.cons rfl (FF.cons rfl FF.nil)))), (hS1.sel [0] rfl rfl), Nat.zero_add _, hz⟩ ?_
 rintro k_ f w ⟨i, out, B3, c3, hf, hS2, hik, hL⟩
 refine cw_seq ?_
 refine cw_region ?_
 refine sq 17 rfl rfl (Y_lt (k := .i64) (a := (i : Int)) (b := 3) rfl (hf.get 16 3 rfl) rfl) ?_
 refine rw_nil ?_
 refine cw_seq ?_
 refine cw_cond (b := (decide ((i : Int) < 3))) rfl (fun hlt => ?_) (fun hlt => ?_)
 ·skip
  have hlt1 : i < 3 := by have h := of_decide_eq_true hlt; omega
  obtain ⟨k_1, rfl⟩ : ∃ k2, k_ = k2 + 1 := ⟨k_ - 1, by omega⟩
  obtain ⟨y, hb, hL1⟩ := forX_go hL
  unfold F_impl_mulBloch_l1 at hb
  refine cw_skip ?_
  refine cw_seq ?_
  refine cw_block ?_
  refine cw_seq ?_
  refine cw_region ?_
  refine sq 18 rfl rfl (Y_move (v := vi (i : Int)) rfl (hf.get 16 3 rfl)) ?_
  refine sq 7 rfl rfl (Y_assign (v := vi (i : Int)) rfl rfl) ?_
  refine rw_nil ?_
  refine cw_seq ?_
  refine cw_region ?_
  refine sq 19 rfl rfl (Y_move (v := vi 0) rfl rfl) ?_
  refine rw_nil ?_
  obtain ⟨z1, hz1, hF2⟩ := bind_inv hb
  refine cw_block ?_
  refine cw_loop (fun k f w => ∃ (i1 : Nat) (out1 : List TDyadic) (B4 : Option Addr) (c4 : Nat), FF f [(0, .slice B a.length c), (1, .slice B1 b.length c1), (6, .slice B4 out1.length c4), (7, vi (i : Int)), (16, vi (i : Int)), (19, vi (i1 : Int))] ∧ ST w0 [] w [⟨B4, 44, (out1.flatMap eN0), c4 * 5⟩] [⟨B, (a.flatMap eN0)⟩, ⟨B1, (b.flatMap eN0)⟩] ∧ i1 + k = 3 ∧ forX (F_impl_mulBloch_l2 a i b) k i1 out1 = some z1) 3 ⟨0, out, B3, c3, (FF.cons (hf.get 0 0 rfl) (FF.cons (hf.get 1 1 rfl) (FF.cons (hf.get 6 2 rfl) (FF.cons rfl (FF.cons (hf.get 16 3 rfl) (FF.cons rfl FF.nil)))))), (hS2.sel [0] rfl rfl), Nat.zero_add _, hz1⟩ ?_
  rintro k_2 f w ⟨i1, out1, B4, c4, hf1, hS3, hik1, hL2⟩
  refine cw_seq ?_
  refine cw_region ?_
  refine sq 20 rfl rfl (Y_lt (k := .i64) (a := (i1 : Int)) (b := 3) rfl (hf1.get 19 5 rfl) rfl) ?_
  refine rw_nil ?_
  refine cw_seq ?_
  refine cw_cond (b := (decide ((i1 : Int) < 3))) rfl (fun hlt2 => ?_) (fun hlt2 => ?_)
  ·skip
   have hlt3 : i1 < 3 := by have h := of_decide_eq_true hlt2; omega
   obtain ⟨k_3, rfl⟩ : ∃ k2, k_2 = k2 + 1 := ⟨k_2 - 1, by omega⟩
   obtain ⟨y1, hb1, hL3⟩ := forX_go hL2
   unfold F_impl_mulBloch_l2 at hb1
   refine cw_skip ?_
   refine cw_seq ?_
   refine cw_block ?_
   refine cw_seq ?_
   refine cw_region ?_
   refine sq 21 rfl rfl (Y_move (v := vi (i1 : Int)) rfl (hf1.get 19 5 rfl)) ?_
   refine sq 8 rfl rfl (Y_assign (v := vi (i1 : Int)) rfl rfl) ?_
   refine rw_nil ?_
   refine cw_seq ?_
   refine cw_region ?_
   refine sq 22 rfl rfl (Y_buildS (zs := [vi 0, vi 0, vi 0, vi 0, vi 0]) (vs := []) (cs := [vi 0, vi 0, vi 0, vi 0, vi 0]) k_pl_44 k_zero_44 rfl mpn rfl) ?_
   refine ss 9 rfl rfl (Ys_alloc (T := 44) (cs := [vi 0, vi 0, vi 0, vi 0, vi 0]) (m := 5) hS3 k_zero_44 rfl rfl rfl) ?_
   rintro _ w_1 ⟨b2, rfl, hS4⟩
   have hS4 : ST w0 [] _ [⟨B4, 44, (out1.flatMap eN0), c4 * 5⟩, ⟨aD b2, 44, [vi 0, vi 0, vi 0, vi 0, vi 0], 5⟩] [⟨B, (a.flatMap eN0)⟩, ⟨B1, (b.flatMap eN0)⟩] := hS4
   refine ss0 rfl rfl (Ys_store (i := 1) (s := 5) (B := aD b2) (T' := 44) (v := .agg #[vi 0, vi 0, vi 0, vi 0, vi 0]) (vs := [vi 0, vi 0, vi 0, vi 0, vi 0]) (k := 0) (cs' := [vi 0, vi 0, vi 0, vi 0, vi 0]) hS4 k_sz_44_5 rfl rfl rfl rfl rfl rfl rfl (Nat.le_of_ble_eq_true rfl) rfl rfl) ?_
   rintro _ w_2 ⟨rfl, hS5⟩
   have hS5 : ST w0 [] _ [⟨B4, 44, (out1.flatMap eN0), c4 * 5⟩, ⟨aD b2, 44, [vi 0, vi 0, vi 0, vi 0, vi 0], 5⟩] [⟨B, (a.flatMap eN0)⟩, ⟨B1, (b.flatMap eN0)⟩] := hS5
   refine rw_nil ?_
   refine cw_seq ?_
   refine cw_seq ?_
   refine cw_region ?_
   refine sq 23 rfl rfl (Y_move (v := vi 0) rfl rfl) ?_
   refine rw_nil ?_
   obtain ⟨z2, hz2, hF3⟩ := bind_inv hb1
   refine cw_block ?_
   refine cw_loop (fun k f w => ∃ (i2 : Nat) (A : Int) (B5 : Int) (C : Int) (D : Int) (Exp : Int), FF f [(0, .slice B a.length c), (1, .slice B1 b.length c1), (6, .slice B4 out1.length c4), (7, vi (i : Int)), (8, vi (i1 : Int)), (9, pt (aD b2) 0), (16, vi (i : Int)), (19, vi (i1 : Int)), (23, vi (i2 : Int))] ∧ ST w0 [] w [⟨B4, 44, (out1.flatMap eN0), c4 * 5⟩, ⟨aD b2, 44, [vi A, vi B5, vi C, vi D, vi Exp], 5⟩] [⟨B, (a.flatMap eN0)⟩, ⟨B1, (b.flatMap eN0)⟩] ∧ i2 + k = 3 ∧ forX (F_impl_mulBloch_l3 a i b i1) k i2 (A, B5, C, D, Exp) = some z2) 3 ⟨0, 0, 0, 0, 0, 0, (FF.cons (hf1.get 0 0 rfl) (FF.cons (hf1.get 1 1 rfl) (FF.cons (hf1.get 6 2 rfl) (FF.cons (hf1.get 7 3 rfl) (FF.cons rfl (FF.cons rfl (FF.cons (hf1.get 16 4 rfl) (FF.cons (hf1.get 19 5 rfl) (FF.cons rfl FF.nil))))))))), (hS5.sel [0, 1] rfl rfl), Nat.zero_add _, hz2⟩ ?_
   rintro k_4 f w ⟨i2, A, B5, C, D, Exp, hf2, hS6, hik2, hL4⟩
   refine cw_seq ?_
   refine cw_region ?_
   refine sq 24 rfl rfl (Y_lt (k := .i64) (a := (i2 : Int)) (b := 3) rfl (hf2.get 23 8 rfl) rfl) ?_
   refine rw_nil ?_
   refine cw_seq ?_
   refine cw_cond (b := (decide ((i2 : Int) < 3))) rfl (fun hlt4 => ?_) (fun hlt4 => ?_)
   ·skip
    have hlt5 : i2 < 3 := by have h := of_decide_eq_true hlt4; omega
    obtain ⟨k_5, rfl⟩ : ∃ k2, k_4 = k2 + 1 := ⟨k_4 - 1, by omega⟩
    obtain ⟨y2, hb2, hL5⟩ := forX_go hL4
    unfold F_impl_mulBloch_l3 at hb2
    refine cw_skip ?_
    refine cw_seq ?_
    refine cw_block ?_
    refine cw_seq ?_
    refine cw_region ?_
    refine sq 25 rfl rfl (Y_move (v := vi (i2 : Int)) rfl (hf2.get 23 8 rfl)) ?_
    refine sq 10 rfl rfl (Y_assign (v := vi (i2 : Int)) rfl rfl) ?_
    refine rw_nil ?_
    refine cw_seq ?_
    obtain ⟨x, hx, hb2⟩ := bind_inv hb2
    obtain ⟨x1, hx1, hb2⟩ := bind_inv hb2
    obtain ⟨⟨r_2, r_3⟩, hc, hb2⟩ := bind_inv hb2
    refine cw_mid (fun f w => ∃ (B6 : Option Addr), FF f [(0, .slice B a.length c), (1, .slice B1 b.length c1), (6, .slice B4 out1.length c4), (7, vi (i : Int)), (8, vi (i1 : Int)), (9, pt (aD b2) 0), (11, pt B6 0), (12, .bool r_3), (16, vi (i : Int)), (19, vi (i1 : Int)), (23, vi (i2 : Int))] ∧ ST w0 [] w [⟨B4, 44, (out1.flatMap eN0), c4 * 5⟩, ⟨aD b2, 44, [vi A, vi B5, vi C, vi D, vi Exp], 5⟩, ⟨B6, 44, [vi r_2.Num.A, vi r_2.Num.B, vi r_2.Num.C, vi r_2.Num.D, vi r_2.Exp], 5⟩] [⟨B, (a.flatMap eN0)⟩, ⟨B1, (b.flatMap eN0)⟩]) ?_ ?_
    ·skip
     refine ra_start (ST.sel hS6 [0, 1] rfl rfl).fn (by kernel_rfl) ?_
     have hS9 := hS6.drew
     refine ra_q 0 27 (v := .slice B a.length c) rfl rfl rfl (by kernel_rfl) (by kernel_rfl) (by kernel_rfl) (ST.sel hS9 [0, 1] rfl rfl) (fun w' hw' => (Y_move (v := .slice B a.length c) rfl (hf2.get 0 0 rfl))) ?_
     refine ra_q 1 28 (v := vi (i : Int)) rfl rfl rfl (by kernel_rfl) (by kernel_rfl) (by kernel_rfl) (ST.sel hS9 [0, 1] rfl rfl) (fun w' hw' => (Y_move (v := vi (i : Int)) rfl (hf2.get 7 3 rfl))) ?_
     refine ra_q 2 29 (v := vi (i64.wrap (3 * (i : Int)))) rfl rfl rfl (by kernel_rfl) (by kernel_rfl) (by kernel_rfl) (ST.sel hS9 [0, 1] rfl rfl) (fun w' hw' => (Y_mul (k := .i64) (a := 3) (b := (i : Int)) rfl rfl rfl)) ?_
     refine ra_q 3 30 (v := vi (i2 : Int)) rfl rfl rfl (by kernel_rfl) (by kernel_rfl) (by kernel_rfl) (ST.sel hS9 [0, 1] rfl rfl) (fun w' hw' => (Y_move (v := vi (i2 : Int)) rfl rfl)) ?_
     refine ra_q 4 31 (v := vi (i64.wrap ((i64.wrap (3 * (i : Int))) + (i2 : Int)))) rfl rfl rfl (by kernel_rfl) (by kernel_rfl) (by kernel_rfl) (ST.sel hS9 [0, 1] rfl rfl) (fun w' hw' => (Y_add (k := .i64) (a := (i64.wrap (3 * (i : Int)))) (b := (i2 : Int)) rfl rfl rfl)) ?_
     refine ra_q 5 32 (v := pt B ((i64.wrap ((i64.wrap (3 * (i : Int))) + (i2 : Int))).toNat * 5)) rfl rfl rfl (by kernel_rfl) (by kernel_rfl) (by kernel_rfl) (ST.sel hS9 [0, 1] rfl rfl) (fun w' hw' => (Y_index (B := B) (m := a.length) (c := c) (k := .i64) (i := (i64.wrap ((i64.wrap (3 * (i : Int))) + (i2 : Int)))) k_sl_32_44 k_sz_44_5 rfl rfl rfl (gi_isSome eN3 rfl (ST.rf hw' (i := 0) rfl) hx) (getI_nn hx) (getI_ltI hx rfl))) ?_
     refine ra_q 6 33 (v := .agg #[vi x.Num.A, vi x.Num.B, vi x.Num.C, vi x.Num.D, vi x.Exp]) rfl rfl rfl (by kernel_rfl) (by kernel_rfl) (by kernel_rfl) (ST.sel hS9 [0, 1] rfl rfl) (fun w' hw' => (Y_loadA (B := B) (i := (i64.wrap ((i64.wrap (3 * (i : Int))) + (i2 : Int))).toNat * 5) (cs := (a.flatMap eN0)) (vs := [vi x.Num.A, vi x.Num.B, vi x.Num.C, vi x.Num.D, vi x.Exp]) k_ag_44 k_sz_44_5 rfl rfl (ST.rf hw' (i := 0) rfl) (eN3 x) (gi_seg eN3 hx))) ?_
     refine ra_q 7 34 (v := .slice B1 b.length c1) rfl rfl rfl (by kernel_rfl) (by kernel_rfl) (by kernel_rfl) (ST.sel hS9 [0, 1] rfl rfl) (fun w' hw' => (Y_move (v := .slice B1 b.length c1) rfl (hf2.get 1 1 rfl))) ?_
     refine ra_q 8 35 (v := vi (i2 : Int)) rfl rfl rfl (by kernel_rfl) (by kernel_rfl) (by kernel_rfl) (ST.sel hS9 [0, 1] rfl rfl) (fun w' hw' => (Y_move (v := vi (i2 : Int)) rfl rfl)) ?_
     refine ra_q 9 36 (v := vi (i64.wrap (3 * (i2 : Int)))) rfl rfl rfl (by kernel_rfl) (by kernel_rfl) (by kernel_rfl) (ST.sel hS9 [0, 1] rfl rfl) (fun w' hw' => (Y_mul (k := .i64) (a := 3) (b := (i2 : Int)) rfl rfl rfl)) ?_
     refine ra_q 10 37 (v := vi (i1 : Int)) rfl rfl rfl (by kernel_rfl) (by kernel_rfl) (by kernel_rfl) (ST.sel hS9 [0, 1] rfl rfl) (fun w' hw' => (Y_move (v := vi (i1 : Int)) rfl (hf2.get 8 4 rfl))) ?_
     refine ra_q 11 38 (v := vi (i64.wrap ((i64.wrap (3 * (i2 : Int))) + (i1 : Int)))) rfl rfl rfl (by kernel_rfl) (by kernel_rfl) (by kernel_rfl) (ST.sel hS9 [0, 1] rfl rfl) (fun w' hw' => (Y_add (k := .i64) (a := (i64.wrap (3 * (i2 : Int)))) (b := (i1 : Int)) rfl rfl rfl)) ?_
     refine ra_q 12 39 (v := pt B1 ((i64.wrap ((i64.wrap (3 * (i2 : Int))) + (i1 : Int))).toNat * 5)) rfl rfl rfl (by kernel_rfl) (by kernel_rfl) (by kernel_rfl) (ST.sel hS9 [0, 1] rfl rfl) (fun w' hw' => (Y_index (B := B1) (m := b.length) (c := c1) (k := .i64) (i := (i64.wrap ((i64.wrap (3 * (i2 : Int))) + (i1 : Int)))) k_sl_32_44 k_sz_44_5 rfl rfl rfl (gi_isSome eN3 rfl (ST.rf hw' (i := 1) rfl) hx1) (getI_nn hx1) (getI_ltI hx1 rfl))) ?_
     refine ra_q 13 40 (v := .agg #[vi x1.Num.A, vi x1.Num.B, vi x1.Num.C, vi x1.Num.D, vi x1.Exp]) rfl rfl rfl (by kernel_rfl) (by kernel_rfl) (by kernel_rfl) (ST.sel hS9 [0, 1] rfl rfl) (fun w' hw' => (Y_loadA (B := B1) (i := (i64.wrap ((i64.wrap (3 * (i2 : Int))) + (i1 : Int))).toNat * 5) (cs := (b.flatMap eN0)) (vs := [vi x1.Num.A, vi x1.Num.B, vi x1.Num.C, vi x1.Num.D, vi x1.Exp]) k_ag_44 k_sz_44_5 rfl rfl (ST.rf hw' (i := 1) rfl) (eN3 x1) (gi_seg eN3 hx1))) ?_
     refine ra_all (rs := [14, 18]) (by kernel_rfl) rfl ?_
     refine ra_c 41 (i := 14) rfl rfl rfl (Yc_func (g := 28) (vs := [.agg #[vi x.Num.A, vi x.Num.B, vi x.Num.C, vi x.Num.D, vi x.Exp], .agg #[vi x1.Num.A, vi x1.Num.B, vi x1.Num.C, vi x1.Num.D, vi x1.Exp]]) k_call_28 rfl (mc rfl (mc rfl mn)) (c_impl_MulDyadic x x1 _  (hS9.inn0 [] rfl) hc)) ?_ ?_
     ·rintro _ w_3 ⟨rfl, hd⟩
      have hS10 := hS9.out00 hd
      have hS10 : ST w0 [] _ [⟨B4, 44, (out1.flatMap eN0), c4 * 5⟩, ⟨aD b2, 44, [vi A, vi B5, vi C, vi D, vi Exp], 5⟩] [⟨B, (a.flatMap eN0)⟩, ⟨B1, (b.flatMap eN0)⟩] := hS10
      refine ⟨(ST.sel hS10 [0, 1] rfl rfl), ?_⟩
      refine ra_q 15 26 (v := .tuple #[.agg #[vi r_2.Num.A, vi r_2.Num.B, vi r_2.Num.C, vi r_2.Num.D, vi r_2.Exp], .bool r_3]) rfl rfl rfl (by kernel_rfl) (by kernel_rfl) (by kernel_rfl) (ST.sel hS10 [0, 1] rfl rfl) (fun w' hw' => (Y_move (v := .tuple #[.agg #[vi r_2.Num.A, vi r_2.Num.B, vi r_2.Num.C, vi r_2.Num.D, vi r_2.Exp], .bool r_3]) rfl rfl)) ?_
      refine ra_q 16 42 (v := .agg #[vi r_2.Num.A, vi r_2.Num.B, vi r_2.Num.C, vi r_2.Num.D, vi r_2.Exp]) rfl rfl rfl (by kernel_rfl) (by kernel_rfl) (by kernel_rfl) (ST.sel hS10 [0, 1] rfl rfl) (fun w' hw' => (Y_extract (v := .agg #[vi r_2.Num.A, vi r_2.Num.B, vi r_2.Num.C, vi r_2.Num.D, vi r_2.Exp]) rfl rfl rfl)) ?_
      refine ra_q 17 43 (v := .bool r_3) rfl rfl rfl (by kernel_rfl) (by kernel_rfl) (by kernel_rfl) (ST.sel hS10 [0, 1] rfl rfl) (fun w' hw' => (Y_extract (v := .bool r_3) rfl rfl rfl)) ?_
      refine ra_all (rs := [18]) (by kernel_rfl) rfl ?_
      refine ra_s 11 (i := 18) rfl rfl rfl (Ys_alloc (T := 44) (cs := [vi 0, vi 0, vi 0, vi 0, vi 0]) (m := 5) hS10 k_zero_44 rfl rfl rfl) ?_ ?_
      ·rintro _ w_4 ⟨b3, rfl, hS11⟩
       have hS11 : ST w0 [] _ [⟨B4, 44, (out1.flatMap eN0), c4 * 5⟩, ⟨aD b2, 44, [vi A, vi B5, vi C, vi D, vi Exp], 5⟩, ⟨aD b3, 44, [vi 0, vi 0, vi 0, vi 0, vi 0], 5⟩] [⟨B, (a.flatMap eN0)⟩, ⟨B1, (b.flatMap eN0)⟩] := hS11
       refine ⟨(ST.sel hS11 [0, 1] rfl rfl), ?_⟩
       refine ra_all (rs := [19]) (by kernel_rfl) rfl ?_
       refine ra_s0 (i := 19) rfl rfl rfl (Ys_store (i := 2) (s := 5) (B := aD b3) (T' := 44) (v := .agg #[vi r_2.Num.A, vi r_2.Num.B, vi r_2.Num.C, vi r_2.Num.D, vi r_2.Exp]) (vs := [vi r_2.Num.A, vi r_2.Num.B, vi r_2.Num.C, vi r_2.Num.D, vi r_2.Exp]) (k := 0) (cs' := [vi r_2.Num.A, vi r_2.Num.B, vi r_2.Num.C, vi r_2.Num.D, vi r_2.Exp]) hS11 k_sz_44_5 rfl rfl rfl rfl rfl rfl rfl (Nat.le_of_ble_eq_true rfl) rfl rfl) ?_ ?_
       ·rintro _ w_5 ⟨rfl, hS12⟩
        have hS12 : ST w0 [] _ [⟨B4, 44, (out1.flatMap eN0), c4 * 5⟩, ⟨aD b2, 44, [vi A, vi B5, vi C, vi D, vi Exp], 5⟩, ⟨aD b3, 44, [vi r_2.Num.A, vi r_2.Num.B, vi r_2.Num.C, vi r_2.Num.D, vi r_2.Exp], 5⟩] [⟨B, (a.flatMap eN0)⟩, ⟨B1, (b.flatMap eN0)⟩] := hS12
        refine ⟨(ST.sel hS12 [0, 1] rfl rfl), ?_⟩
        refine ra_q 20 12 (v := .bool r_3) rfl rfl rfl (by kernel_rfl) (by kernel_rfl) (by kernel_rfl) (ST.sel hS12 [0, 1] rfl rfl) (fun w' hw' => (Y_assign (v := .bool r_3) rfl rfl)) ?_
        refine ra_done (by kernel_rfl) ?_
        exact ⟨aD b3, (FF.cons (hf2.get 0 0 rfl) (FF.cons (hf2.get 1 1 rfl) (FF.cons (hf2.get 6 2 rfl) (FF.cons (hf2.get 7 3 rfl) (FF.cons (hf2.get 8 4 rfl) (FF.cons (hf2.get 9 5 rfl) (FF.cons rfl (FF.cons rfl (FF.cons (hf2.get 16 6 rfl) (FF.cons (hf2.get 19 7 rfl) (FF.cons (hf2.get 23 8 rfl) FF.nil))))))))))), (hS12.sel [0, 1, 2] rfl rfl)⟩
       exact allR_nil
      exact allR_nil
     refine ra_s 11 (i := 18) rfl rfl rfl (Ys_alloc (T := 44) (cs := [vi 0, vi 0, vi 0, vi 0, vi 0]) (m := 5) hS9 k_zero_44 rfl rfl rfl) ?_ ?_
     ·rintro _ w_6 ⟨b3, rfl, hS13⟩
      have hS13 : ST w0 [] _ [⟨B4, 44, (out1.flatMap eN0), c4 * 5⟩, ⟨aD b2, 44, [vi A, vi B5, vi C, vi D, vi Exp], 5⟩, ⟨aD b3, 44, [vi 0, vi 0, vi 0, vi 0, vi 0], 5⟩] [⟨B, (a.flatMap eN0)⟩, ⟨B1, (b.flatMap eN0)⟩] := hS13
      refine ⟨(ST.sel hS13 [0, 1] rfl rfl), ?_⟩
      refine ra_all (rs := [14]) (by kernel_rfl) rfl ?_
      refine ra_c 41 (i := 14) rfl rfl rfl (Yc_func (g := 28) (vs := [.agg #[vi x.Num.A, vi x.Num.B, vi x.Num.C, vi x.Num.D, vi x.Exp], .agg #[vi x1.Num.A, vi x1.Num.B, vi x1.Num.C, vi x1.Num.D, vi x1.Exp]]) k_call_28 rfl (mc rfl (mc rfl mn)) (c_impl_MulDyadic x x1 _  (hS13.inn0 [] rfl) hc)) ?_ ?_
      ·rintro _ w_7 ⟨rfl, hd1⟩
       have hS14 := hS13.out00 hd1
       have hS14 : ST w0 [] _ [⟨B4, 44, (out1.flatMap eN0), c4 * 5⟩, ⟨aD b2, 44, [vi A, vi B5, vi C, vi D, vi Exp], 5⟩, ⟨aD b3, 44, [vi 0, vi 0, vi 0, vi 0, vi 0], 5⟩] [⟨B, (a.flatMap eN0)⟩, ⟨B1, (b.flatMap eN0)⟩] := hS14
       refine ⟨(ST.sel hS14 [0, 1] rfl rfl), ?_⟩
       refine ra_q 15 26 (v := .tuple #[.agg #[vi r_2.Num.A, vi r_2.Num.B, vi r_2.Num.C, vi r_2.Num.D, vi r_2.Exp], .bool r_3]) rfl rfl rfl (by kernel_rfl) (by kernel_rfl) (by kernel_rfl) (ST.sel hS14 [0, 1] rfl rfl) (fun w' hw' => (Y_move (v := .tuple #[.agg #[vi r_2.Num.A, vi r_2.Num.B, vi r_2.Num.C, vi r_2.Num.D, vi r_2.Exp], .bool r_3]) rfl rfl)) ?_
       refine ra_q 16 42 (v := .agg #[vi r_2.Num.A, vi r_2.Num.B, vi r_2.Num.C, vi r_2.Num.D, vi r_2.Exp]) rfl rfl rfl (by kernel_rfl) (by kernel_rfl) (by kernel_rfl) (ST.sel hS14 [0, 1] rfl rfl) (fun w' hw' => (Y_extract (v := .agg #[vi r_2.Num.A, vi r_2.Num.B, vi r_2.Num.C, vi r_2.Num.D, vi r_2.Exp]) rfl rfl rfl)) ?_
       refine ra_q 17 43 (v := .bool r_3) rfl rfl rfl (by kernel_rfl) (by kernel_rfl) (by kernel_rfl) (ST.sel hS14 [0, 1] rfl rfl) (fun w' hw' => (Y_extract (v := .bool r_3) rfl rfl rfl)) ?_
       refine ra_all (rs := [19]) (by kernel_rfl) rfl ?_
       refine ra_s0 (i := 19) rfl rfl rfl (Ys_store (i := 2) (s := 5) (B := aD b3) (T' := 44) (v := .agg #[vi r_2.Num.A, vi r_2.Num.B, vi r_2.Num.C, vi r_2.Num.D, vi r_2.Exp]) (vs := [vi r_2.Num.A, vi r_2.Num.B, vi r_2.Num.C, vi r_2.Num.D, vi r_2.Exp]) (k := 0) (cs' := [vi r_2.Num.A, vi r_2.Num.B, vi r_2.Num.C, vi r_2.Num.D, vi r_2.Exp]) hS14 k_sz_44_5 rfl rfl rfl rfl rfl rfl rfl (Nat.le_of_ble_eq_true rfl) rfl rfl) ?_ ?_
       ·rintro _ w_8 ⟨rfl, hS15⟩
        have hS15 : ST w0 [] _ [⟨B4, 44, (out1.flatMap eN0), c4 * 5⟩, ⟨aD b2, 44, [vi A, vi B5, vi C, vi D, vi Exp], 5⟩, ⟨aD b3, 44, [vi r_2.Num.A, vi r_2.Num.B, vi r_2.Num.C, vi r_2.Num.D, vi r_2.Exp], 5⟩] [⟨B, (a.flatMap eN0)⟩, ⟨B1, (b.flatMap eN0)⟩] := hS15
        refine ⟨(ST.sel hS15 [0, 1] rfl rfl), ?_⟩
        refine ra_q 20 12 (v := .bool r_3) rfl rfl rfl (by kernel_rfl) (by kernel_rfl) (by kernel_rfl) (ST.sel hS15 [0, 1] rfl rfl) (fun w' hw' => (Y_assign (v := .bool r_3) rfl rfl)) ?_
        refine ra_done (by kernel_rfl) ?_
        exact ⟨aD b3, (FF.cons (hf2.get 0 0 rfl) (FF.cons (hf2.get 1 1 rfl) (FF.cons (hf2.get 6 2 rfl) (FF.cons (hf2.get 7 3 rfl) (FF.cons (hf2.get 8 4 rfl) (FF.cons (hf2.get 9 5 rfl) (FF.cons rfl (FF.cons rfl (FF.cons (hf2.get 16 6 rfl) (FF.cons (hf2.get 19 7 rfl) (FF.cons (hf2.get 23 8 rfl) FF.nil))))))))))), (hS15.sel [0, 1, 2] rfl rfl)⟩
       exact allR_nil
      exact allR_nil
     exact allR_nil
    rintro f w ⟨B6, hf3, hS8⟩
    refine cw_seq ?_
    refine cw_region ?_
    refine sq 45 rfl rfl (Y_loadA (B := aD b2) (i := 0) (cs := [vi A, vi B5, vi C, vi D, vi Exp]) (vs := [vi A, vi B5, vi C, vi D, vi Exp]) k_ag_44 k_sz_44_5 rfl (hf3.get 9 5 rfl) (hS8.cf (i := 1) rfl) rfl rfl) ?_
    refine sq 46 rfl rfl (Y_loadA (B := B6) (i := 0) (cs := [vi r_2.Num.A, vi r_2.Num.B, vi r_2.Num.C, vi r_2.Num.D, vi r_2.Exp]) (vs := [vi r_2.Num.A, vi r_2.Num.B, vi r_2.Num.C, vi r_2.Num.D, vi r_2.Exp]) k_ag_44 k_sz_44_5 rfl (hf3.get 11 6 rfl) (hS8.cf (i := 2) rfl) rfl rfl) ?_
    obtain ⟨⟨r_4, r_5⟩, hc1, hb2⟩ := bind_inv hb2
    refine sc 47 rfl rfl (Yc_func (g := 29) (vs := [.agg #[vi A, vi B5, vi C, vi D, vi Exp], .agg #[vi r_2.Num.A, vi r_2.Num.B, vi r_2.Num.C, vi r_2.Num.D, vi r_2.Exp]]) k_call_29 rfl (mc rfl (mc rfl mn)) (c_impl_AddDyadic (TDyadic.mk (TRing.mk A B5 C D) Exp) r_2 _  (hS8.inn0 [] rfl) hc1)) ?_
    rintro _ w_9 ⟨rfl, hd2⟩
    have hS16 := hS8.out00 hd2
    have hS16 : ST w0 [] _ [⟨B4, 44, (out1.flatMap eN0), c4 * 5⟩, ⟨aD b2, 44, [vi A, vi B5, vi C, vi D, vi Exp], 5⟩, ⟨B6, 44, [vi r_2.Num.A, vi r_2.Num.B, vi r_2.Num.C, vi r_2.Num.D, vi r_2.Exp], 5⟩] [⟨B, (a.flatMap eN0)⟩, ⟨B1, (b.flatMap eN0)⟩] := hS16
    refine sq 44 rfl rfl (Y_move (v := .tuple #[.agg #[vi r_4.Num.A, vi r_4.Num.B, vi r_4.Num.C, vi r_4.Num.D, vi r_4.Exp], .bool r_5]) rfl rfl) ?_
    refine sq 48 rfl rfl (Y_extract (v := .agg #[vi r_4.Num.A, vi r_4.Num.B, vi r_4.Num.C, vi r_4.Num.D, vi r_4.Exp]) rfl rfl rfl) ?_
    refine sq 49 rfl rfl (Y_extract (v := .bool r_5) rfl rfl rfl) ?_
    refine ss 13 rfl rfl (Ys_alloc (T := 44) (cs := [vi 0, vi 0, vi 0, vi 0, vi 0]) (m := 5) hS16 k_zero_44 rfl rfl rfl) ?_
    rintro _ w_10 ⟨b4, rfl, hS17⟩
    have hS17 : ST w0 [] _ [⟨B4, 44, (out1.flatMap eN0), c4 * 5⟩, ⟨aD b2, 44, [vi A, vi B5, vi C, vi D, vi Exp], 5⟩, ⟨B6, 44, [vi r_2.Num.A, vi r_2.Num.B, vi r_2.Num.C, vi r_2.Num.D, vi r_2.Exp], 5⟩, ⟨aD b4, 44, [vi 0, vi 0, vi 0, vi 0, vi 0], 5⟩] [⟨B, (a.flatMap eN0)⟩, ⟨B1, (b.flatMap eN0)⟩] := hS17
    refine ss0 rfl rfl (Ys_store (i := 3) (s := 5) (B := aD b4) (T' := 44) (v := .agg #[vi r_4.Num.A, vi r_4.Num.B, vi r_4.Num.C, vi r_4.Num.D, vi r_4.Exp]) (vs := [vi r_4.Num.A, vi r_4.Num.B, vi r_4.Num.C, vi r_4.Num.D, vi r_4.Exp]) (k := 0) (cs' := [vi r_4.Num.A, vi r_4.Num.B, vi r_4.Num.C, vi r_4.Num.D, vi r_4.Exp]) hS17 k_sz_44_5 rfl rfl rfl rfl rfl rfl rfl (Nat.le_of_ble_eq_true rfl) rfl rfl) ?_
    rintro _ w_11 ⟨rfl, hS18⟩
    have hS18 : ST w0 [] _ [⟨B4, 44, (out1.flatMap eN0), c4 * 5⟩, ⟨aD b2, 44, [vi A, vi B5, vi C, vi D, vi Exp], 5⟩, ⟨B6, 44, [vi r_2.Num.A, vi r_2.Num.B, vi r_2.Num.C, vi r_2.Num.D, vi r_2.Exp], 5⟩, ⟨aD b4, 44, [vi r_4.Num.A, vi r_4.Num.B, vi r_4.Num.C, vi r_4.Num.D, vi r_4.Exp], 5⟩] [⟨B, (a.flatMap eN0)⟩, ⟨B1, (b.flatMap eN0)⟩] := hS18
    refine sq 14 rfl rfl (Y_assign (v := .bool r_5) rfl rfl) ?_
    refine rw_nil ?_
    refine cw_seq ?_
    refine cw_seq ?_
    refine cw_region ?_
    refine sq 50 rfl rfl (Y_move (v := .bool r_3) rfl (hf3.get 12 7 rfl)) ?_
    refine sq 51 rfl rfl (Y_not (p := r_3) rfl rfl) ?_
    refine sq 52 rfl rfl (Y_move (v := .bool (!r_3)) rfl rfl) ?_
    refine sgq 53 (B := (!(!r_3))) (v := .bool r_5) rfl rfl (wt_f (gd_of (t := 52) (by kernel_rfl) rfl)) (fun hg => (Y_move (v := .bool r_5) rfl rfl)) ?_
    refine sgq 54 (B := (!(!r_3))) (v := .bool (!r_5)) rfl rfl (wt_f (gd_of (t := 52) (by kernel_rfl) rfl)) (fun hg1 => (Y_not (p := r_5) rfl (gv_of (B := (!(!r_3))) (v := .bool r_5) hg1))) ?_
    refine sq 55 rfl rfl (Y_or (b := (!r_3)) (z := (!r_5)) rfl rfl rfl rfl) ?_
    refine rw_nil ?_
    refine cw_cond (b := ((!r_3) || (!r_5))) rfl (fun hb3 => ?_) (fun hb3 => ?_)
    ·skip
     have hF4 := ct hb2 hb3
     refine cw_seq ?_
     refine cw_region ?_
     refine sq 4 rfl rfl (Y_assign (v := .slice none 0 0) rfl rfl) ?_
     refine sq 5 rfl rfl (Y_assign (v := .bool false) rfl rfl) ?_
     refine rw_nil ?_
     refine cw_ret ?_
     have hS19 := hS18.addNil 44
     obtain rfl := some_inj hF4
     obtain rfl := some_inj hL5
     obtain rfl := some_inj hF3
     obtain rfl := some_inj hL3
     obtain rfl := some_inj hF2
     obtain rfl := some_inj hL1
     obtain ⟨rfl, rfl⟩ := pr2 (some_inj hF1)
     exact ret2 Tryd.results16 (v1 := .slice none 0 0) (resAt_tmp rfl) (v2 := .bool false) (resAt_tmp rfl) ⟨none, 0, rfl, (ST.subR (R' := []) (hS19.sel [4] rfl rfl) (fun _ h => by cases h))⟩
    ·skip
     have hF5 := cf' hb2 hb3
     refine cw_skip ?_
     refine cw_region ?_
     refine sq 56 rfl rfl (Y_loadA (B := aD b4) (i := 0) (cs := [vi r_4.Num.A, vi r_4.Num.B, vi r_4.Num.C, vi r_4.Num.D, vi r_4.Exp]) (vs := [vi r_4.Num.A, vi r_4.Num.B, vi r_4.Num.C, vi r_4.Num.D, vi r_4.Exp]) k_ag_44 k_sz_44_5 rfl rfl (hS18.cf (i := 3) rfl) rfl rfl) ?_
     refine ss0 rfl rfl (Ys_store (i := 1) (s := 5) (B := aD b2) (T' := 44) (v := .agg #[vi r_4.Num.A, vi r_4.Num.B, vi r_4.Num.C, vi r_4.Num.D, vi r_4.Exp]) (vs := [vi r_4.Num.A, vi r_4.Num.B, vi r_4.Num.C, vi r_4.Num.D, vi r_4.Exp]) (k := 0) (cs' := [vi r_4.Num.A, vi r_4.Num.B, vi r_4.Num.C, vi r_4.Num.D, vi r_4.Exp]) hS18 k_sz_44_5 rfl (hf3.get 9 5 rfl) rfl rfl rfl rfl rfl (Nat.le_of_ble_eq_true rfl) rfl rfl) ?_
     rintro _ w_12 ⟨rfl, hS20⟩
     have hS20 : ST w0 [] _ [⟨B4, 44, (out1.flatMap eN0), c4 * 5⟩, ⟨aD b2, 44, [vi r_4.Num.A, vi r_4.Num.B, vi r_4.Num.C, vi r_4.Num.D, vi r_4.Exp], 5⟩, ⟨B6, 44, [vi r_2.Num.A, vi r_2.Num.B, vi r_2.Num.C, vi r_2.Num.D, vi r_2.Exp], 5⟩, ⟨aD b4, 44, [vi r_4.Num.A, vi r_4.Num.B, vi r_4.Num.C, vi r_4.Num.D, vi r_4.Exp], 5⟩] [⟨B, (a.flatMap eN0)⟩, ⟨B1, (b.flatMap eN0)⟩] := hS20
     refine rw_nil ?_
     refine cw_region ?_
     refine sq 57 rfl rfl (Y_add (k := .i64) (a := (i2 : Int)) (b := 1) rfl (hf3.get 23 10 rfl) rfl) ?_
     refine sq 23 rfl rfl (Y_move (v := vi (i64.wrap ((i2 : Int) + 1))) rfl rfl) ?_
     refine rw_nil ?_
     obtain rfl := some_inj hF5
     exact ⟨k_5, Nat.lt_succ_self _, i2 + 1, r_4.Num.A, r_4.Num.B, r_4.Num.C, r_4.Num.D, r_4.Exp, (FF.cons (hf3.get 0 0 rfl) (FF.cons (hf3.get 1 1 rfl) (FF.cons (hf3.get 6 2 rfl) (FF.cons (hf3.get 7 3 rfl) (FF.cons (hf3.get 8 4 rfl) (FF.cons (hf3.get 9 5 rfl) (FF.cons (hf3.get 16 8 rfl) (FF.cons (hf3.get 19 9 rfl) (FF.cons (congrArg (Value.int .i64) (wr_succ hlt5 (show 3 ≤ 9223372036854775807 by decide))) FF.nil))))))))), (hS20.sel [0, 1] rfl rfl), (by omega), hL5⟩
   ·skip
    obtain rfl : k_4 = 0 := by have h := of_decide_eq_false hlt4; omega
    refine cw_exit rfl ?_
    obtain rfl := some_inj hL4
    refine cw_region ?_
    refine sq 58 rfl rfl (Y_move (v := .slice B4 out1.length c4) rfl (hf2.get 6 2 rfl)) ?_
    refine sq 59 rfl rfl (Y_loadA (B := aD b2) (i := 0) (cs := [vi A, vi B5, vi C, vi D, vi Exp]) (vs := [vi A, vi B5, vi C, vi D, vi Exp]) k_ag_44 k_sz_44_5 rfl (hf2.get 9 5 rfl) (hS6.cf (i := 1) rfl) rfl rfl) ?_
    refine ss 60 rfl rfl (Ys_bslice (s := 5) (len := 1) (vs := [(0, .agg #[vi A, vi B5, vi C, vi D, vi Exp])]) (cs := [vi A, vi B5, vi C, vi D, vi Exp]) (zs := [vi 0, vi 0, vi 0, vi 0, vi 0]) (m := 5) hS6 k_sl_32_44 k_sz_44_5 k_zc_44 rfl (mpc rfl mpn) rfl rfl rfl (by kernel_rfl) (by kernel_rfl) rfl) ?_
    rintro _ w_13 ⟨b5, rfl, hS21⟩
    have hS21 : ST w0 [] _ [⟨B4, 44, (out1.flatMap eN0), c4 * 5⟩, ⟨aD b2, 44, [vi A, vi B5, vi C, vi D, vi Exp], 5⟩, ⟨aD b5, 44, ([(TDyadic.mk (TRing.mk A B5 C D) Exp)].flatMap eN0), 1 * 5⟩] [⟨B, (a.flatMap eN0)⟩, ⟨B1, (b.flatMap eN0)⟩] := hS21
    obtain ⟨hap, hF3⟩ := chk_inv hF3
    refine ss 61 rfl rfl (Ys_append (s := 5) (by' := 40) (i := 0) (nn := out1.length) (c := c4) (k := 1) (len := (out1 ++ [(TDyadic.mk (TRing.mk A B5 C D) Exp)]).length) (B := B4) (xs := ([(TDyadic.mk (TRing.mk A B5 C D) Exp)].flatMap eN0)) (cs' := ((out1 ++ [(TDyadic.mk (TRing.mk A B5 C D) Exp)]).flatMap eN0)) hS21 k_sl_32_44 k_sz_44_5 k_by_44_40 k_zero_44 rfl (by decide) rfl rfl rfl rfl (fm_lenn (l := out1) eN3 rfl) rfl (hS21.cf (i := 2) rfl) (fm_lenn (l := [(TDyadic.mk (TRing.mk A B5 C D) Exp)]) eN3 rfl) (fm_one' (enc := eN0) enc_Dyadic_one [(TDyadic.mk (TRing.mk A B5 C D) Exp)]) (by have := hap; omega) (by have := hap; simp only [maxLen]; omega) (fm_app _ _) (app_len (l := out1) (l' := [(TDyadic.mk (TRing.mk A B5 C D) Exp)]) rfl rfl)) ?_
    rintro _ w_14 ⟨B7, c5, rfl, hS22⟩
    have hS22 : ST w0 [] _ [⟨B7, 44, ((out1 ++ [(TDyadic.mk (TRing.mk A B5 C D) Exp)]).flatMap eN0), c5 * 5⟩, ⟨aD b2, 44, [vi A, vi B5, vi C, vi D, vi Exp], 5⟩, ⟨aD b5, 44, ([(TDyadic.mk (TRing.mk A B5 C D) Exp)].flatMap eN0), 1 * 5⟩] [⟨B, (a.flatMap eN0)⟩, ⟨B1, (b.flatMap eN0)⟩] := hS22
    refine sq 6 rfl rfl (Y_assign (v := .slice B7 ((out1 ++ [(TDyadic.mk (TRing.mk A B5 C D) Exp)]).length) c5) rfl rfl) ?_
    refine rw_nil ?_
    refine cw_region ?_
    refine sq 62 rfl rfl (Y_add (k := .i64) (a := (i1 : Int)) (b := 1) rfl (hf2.get 19 7 rfl) rfl) ?_
    refine sq 19 rfl rfl (Y_move (v := vi (i64.wrap ((i1 : Int) + 1))) rfl rfl) ?_
    refine rw_nil ?_
    obtain rfl := some_inj hF3
    exact ⟨k_3, Nat.lt_succ_self _, i1 + 1, (out1 ++ [(TDyadic.mk (TRing.mk A B5 C D) Exp)]), B7, c5, (FF.cons (hf2.get 0 0 rfl) (FF.cons (hf2.get 1 1 rfl) (FF.cons rfl (FF.cons (hf2.get 7 3 rfl) (FF.cons (hf2.get 16 6 rfl) (FF.cons (congrArg (Value.int .i64) (wr_succ hlt3 (show 3 ≤ 9223372036854775807 by decide))) FF.nil)))))), (hS22.sel [0] rfl rfl), (by omega), hL3⟩
  ·skip
   obtain rfl : k_2 = 0 := by have h := of_decide_eq_false hlt2; omega
   refine cw_exit rfl ?_
   obtain rfl := some_inj hL2
   refine cw_region ?_
   refine sq 63 rfl rfl (Y_add (k := .i64) (a := (i : Int)) (b := 1) rfl (hf1.get 16 4 rfl) rfl) ?_
   refine sq 16 rfl rfl (Y_move (v := vi (i64.wrap ((i : Int) + 1))) rfl rfl) ?_
   refine rw_nil ?_
   obtain rfl := some_inj hF2
   exact ⟨k_1, Nat.lt_succ_self _, i + 1, out1, B4, c4, (FF.cons (hf1.get 0 0 rfl) (FF.cons (hf1.get 1 1 rfl) (FF.cons (hf1.get 6 2 rfl) (FF.cons (congrArg (Value.int .i64) (wr_succ hlt1 (show 3 ≤ 9223372036854775807 by decide))) FF.nil)))), (hS3.sel [0] rfl rfl), (by omega), hL1⟩
 ·skip
  obtain rfl : k_ = 0 := by have h := of_decide_eq_false hlt; omega
  refine cw_exit rfl ?_
  obtain rfl := some_inj hL
  refine cw_seq ?_
  refine cw_region ?_
  refine sq 64 rfl rfl (Y_move (v := .slice B3 out.length c3) rfl (hf.get 6 2 rfl)) ?_
  refine sq 4 rfl rfl (Y_assign (v := .slice B3 out.length c3) rfl rfl) ?_
  refine sq 5 rfl rfl (Y_assign (v := .bool true) rfl rfl) ?_
  refine rw_nil ?_
  refine cw_ret ?_
  obtain ⟨rfl, rfl⟩ := pr2 (some_inj hF1)
  exact ret2 Tryd.results16 (v1 := .slice B3 out.length c3) (resAt_tmp rfl) (v2 := .bool true) (resAt_tmp rfl) ⟨B3, c3, rfl, (ST.subR (R' := []) (hS2.sel [0] rfl rfl) (fun _ h => by cases h))⟩

theorem c_slices_IndexFunc_SSimpl_Dyadic_impl_Dyadic (s : List (List TDyadic)) (f_ : (List TDyadic) → Option (Bool)) (B : Option Addr) (c n : Nat) (D : List (Hd × (List TDyadic))) (kf : Nat) (caps : Array Value) (Rf : List Ro) (w0 : World) (hn : s.length = n) (hD : D.map Prod.snd = s) (hk : callB Tryd.prog kf = true) (hp : ∀ (w : World) (x : List TDyadic) (B_x : Option Addr) (c_x : Nat), ST w [] w [] (⟨B_x, (x.flatMap eN0)⟩ :: Rf) → ∀ (y : Bool), f_ x = some y → CV Tryd.prog kf ((.slice B_x x.length c_x) :: caps.toList).toArray w (fun v w' => v = .bool y ∧ ST w [] w' [] [])) (hS : ST w0 [] w0 [] (⟨B, (D.flatMap eN2)⟩ :: ((D.flatMap eN1) ++ Rf))) {r_ : Int} (hF : F_slices_IndexFunc_SSimpl_Dyadic_impl_Dyadic s f_ = some r_) :
  CV Tryd.prog 30 #[.slice B n c, .func (.func kf) #[] caps] w0 (fun v w' => v = vi r_ ∧ ST w0 [] w' [] []) := by
 subst hn
 unfold F_slices_IndexFunc_SSimpl_Dyadic_impl_Dyadic at hF
 refine cv_of_cw 19 Tryd.func30 rfl Tryd.ntmps30 rfl ?_
 refine cw_seq ?_
 refine cw_region ?_
 refine sq 4 rfl rfl (Y_assign (v := vi 0) rfl rfl) ?_
 refine rw_nil ?_
 refine cw_seq ?_
 refine cw_seq ?_
 refine cw_region ?_
 refine sq 6 rfl rfl (Y_move (v := .slice B s.length c) rfl rfl) ?_
 refine sq 7 rfl rfl (Y_len (B := B) (m := s.length) (c := c) k_sl_28_32 rfl rfl) ?_
 refine sq 8 rfl rfl (Y_move (v := vi 0) rfl rfl) ?_
 refine rw_nil ?_
 obtain ⟨hN, hF⟩ := chk_inv hF
 obtain ⟨z, hz, hF1⟩ := bind_inv hF
 refine cw_block ?_
 refine cw_loop (fun k f w => ∃ (i : Nat), FF f [(0, .slice B s.length c), (1, .func (.func kf) #[] caps), (7, vi (s.length : Int)), (8, vi (i : Int))] ∧ ST w0 [] w [] (⟨B, (D.flatMap eN2)⟩ :: ((D.flatMap eN1) ++ Rf)) ∧ i + k = s.length ∧ forX (F_slices_IndexFunc_SSimpl_Dyadic_impl_Dyadic_l1 s f_) k i () = some z) s.length ⟨0, (FF.cons rfl (FF.cons rfl (FF.cons rfl (FF.cons rfl FF.nil)))), (hS.sel [] rfl rfl), Nat.zero_add _, hz⟩ ?_
 rintro k_ f w ⟨i, hf, hS1, hik, hL⟩
 refine cw_seq ?_
 refine cw_region ?_
 refine sq 9 rfl rfl (Y_lt (k := .i64) (a := (i : Int)) (b := (s.length : Int)) rfl (hf.get 8 3 rfl) (hf.get 7 2 rfl)) ?_
 refine rw_nil ?_
 refine cw_seq ?_
 refine cw_cond (b := (decide ((i : Int) < (s.length : Int)))) rfl (fun hlt => ?_) (fun hlt => ?_)
 ·skip
  have hlt1 : i < s.length := by have h := of_decide_eq_true hlt; omega
  obtain ⟨k_1, rfl⟩ : ∃ k2, k_ = k2 + 1 := ⟨k_ - 1, by omega⟩
  obtain ⟨y1, hb, hL1⟩ := forX_go hL
  unfold F_slices_IndexFunc_SSimpl_Dyadic_impl_Dyadic_l1 at hb
  refine cw_skip ?_
  refine cw_seq ?_
  refine cw_block ?_
  refine cw_seq ?_
  refine cw_region ?_
  refine sq 10 rfl rfl (Y_move (v := vi (i : Int)) rfl (hf.get 8 3 rfl)) ?_
  refine sq 5 rfl rfl (Y_assign (v := vi (i : Int)) rfl rfl) ?_
  refine rw_nil ?_
  refine cw_seq ?_
  refine cw_region ?_
  refine sq 11 rfl rfl (Y_move (v := .func (.func kf) #[] caps) rfl (hf.get 1 1 rfl)) ?_
  refine sq 12 rfl rfl (Y_move (v := .slice B s.length c) rfl (hf.get 0 0 rfl)) ?_
  refine sq 13 rfl rfl (Y_move (v := vi (i : Int)) rfl rfl) ?_
  obtain ⟨x1, hx, hb⟩ := bind_inv hb
  obtain ⟨⟨B1, c1⟩, hp1⟩ := getI_snd hD hx
  refine sq 14 rfl rfl (Y_index (B := B) (m := s.length) (c := c) (k := .i64) (i := (i : Int)) k_sl_28_32 k_sz_32_1 rfl rfl rfl (gi_isSome encD_SDyadic_len rfl (hS1.rf (i := 0) rfl) hp1) (getI_nn hp1) (getI_ltI hp1 (dl_len hD))) ?_
  have hm : (⟨B1, (x1.flatMap eN0)⟩ : Ro) ∈ ((⟨B, (D.flatMap eN2)⟩ :: ((D.flatMap eN1) ++ Rf)) : List Ro) := app_mem (fun r_ (h : r_ ∈ ((D.flatMap eN1) : List Ro)) => List.mem_of_mem_drop (i := 1) (show r_ ∈ ((((D.flatMap eN1) ++ Rf)) : List Ro) from List.mem_append_left _ h)) (row_mem (rw_ := eN1) hp1 _ (mem_at (i := 0) rfl))
  have hS2 : ST w0 [] _ [] (⟨B1, (x1.flatMap eN0)⟩ :: ⟨B, (D.flatMap eN2)⟩ :: ((D.flatMap eN1) ++ Rf)) := ST.subR hS1 (subc hm (fun _ h => h))
  refine sq 15 rfl rfl (Y_load1 (B := B) (i := (i : Int).toNat * 1) (cs := (D.flatMap eN2)) (v := .slice B1 x1.length c1) k_sc_32 rfl rfl (hS2.rf (i := 1) rfl) (gi_at0 encD_SDyadic_len hp1 rfl)) ?_
  obtain ⟨r_1, hc, hb⟩ := bind_inv hb
  refine sc 16 rfl rfl (Yc_clos (g := kf) (vs := (.slice B1 x1.length c1) :: caps.toList) hk rfl rfl (clo_args (mc rfl mn)) (hp _ x1 B1 c1 (hS2.innR0 (srcR (mem_at (i := 0) rfl) (fun x h => Or.inl (app_mem (fun r_ (h : r_ ∈ (Rf : List Ro)) => List.mem_of_mem_drop (i := 2) (show r_ ∈ ((((D.flatMap eN1) ++ Rf)) : List Ro) from List.mem_append_right _ (h))) h)))) r_1 hc)) ?_
  rintro _ w_ ⟨rfl, hd⟩
  have hS3 := hS2.out00 hd
  refine rw_nil ?_
  refine cw_cond (b := r_1) rfl (fun hb1 => ?_) (fun hb1 => ?_)
  ·skip
   have hF2 := ct hb hb1
   refine cw_seq ?_
   refine cw_region ?_
   refine sq 17 rfl rfl (Y_move (v := vi (i : Int)) rfl rfl) ?_
   refine sq 4 rfl rfl (Y_assign (v := vi (i : Int)) rfl rfl) ?_
   refine rw_nil ?_
   refine cw_ret ?_
   obtain rfl := some_inj hF2
   obtain rfl := some_inj hL1
   obtain rfl := some_inj hF1
   exact ret1 Tryd.results30 (v1 := vi (i : Int)) (resAt_tmp rfl) ⟨rfl, (ST.subR (R' := []) (hS3.sel [] rfl rfl) (fun _ h => by cases h))⟩
  ·skip
   have hF3 := cf' hb hb1
   refine cw_skip ?_
   refine cw_region ?_
   refine sq 18 rfl rfl (Y_add (k := .i64) (a := (i : Int)) (b := 1) rfl (hf.get 8 3 rfl) rfl) ?_
   refine sq 8 rfl rfl (Y_move (v := vi (i64.wrap ((i : Int) + 1))) rfl rfl) ?_
   refine rw_nil ?_
   obtain rfl := some_inj hF3
   have hS4 : ST w0 [] _ [] (⟨B, (D.flatMap eN2)⟩ :: ((D.flatMap eN1) ++ Rf)) := ST.subR hS3 (subc (mem_at (i := 1) rfl) (suba (fun r_ (h : r_ ∈ ((D.flatMap eN1) : List Ro)) => List.mem_of_mem_drop (i := 2) (show r_ ∈ ((((D.flatMap eN1) ++ Rf)) : List Ro) from List.mem_append_left _ h)) (fun r_ (h : r_ ∈ (Rf : List Ro)) => List.mem_of_mem_drop (i := 2) (show r_ ∈ ((((D.flatMap eN1) ++ Rf)) : List Ro) from List.mem_append_right _ (h)))))
   exact ⟨k_1, Nat.lt_succ_self _, i + 1, (FF.cons (hf.get 0 0 rfl) (FF.cons (hf.get 1 1 rfl) (FF.cons (hf.get 7 2 rfl) (FF.cons (congrArg (Value.int .i64) (wr_succ hlt1 hN)) FF.nil)))), (hS4.sel [] rfl rfl), (by omega), hL1⟩
 ·skip
  obtain rfl : k_ = 0 := by have h := of_decide_eq_false hlt; omega
  refine cw_exit rfl ?_
  obtain rfl := some_inj hL
  refine cw_seq ?_
  refine cw_region ?_
  refine sq 4 rfl rfl (Y_assign (v := vi (-1)) rfl rfl) ?_
  refine rw_nil ?_
  refine cw_ret ?_
  obtain rfl := some_inj hF1
  exact ret1 Tryd.results30 (v1 := vi (-1)) (resAt_tmp rfl) ⟨rfl, (ST.subR (R' := []) (hS1.sel [] rfl rfl) (fun _ h => by cases h))⟩

theorem c_slices_ContainsFunc_SSimpl_Dyadic_impl_Dyadic (s : List (List TDyadic)) (f_ : (List TDyadic) → Option (Bool)) (B : Option Addr) (c n : Nat) (D : List (Hd × (List TDyadic))) (kf : Nat) (caps : Array Value) (Rf : List Ro) (w0 : World) (hn : s.length = n) (hD : D.map Prod.snd = s) (hk : callB Tryd.prog kf = true) (hp : ∀ (w : World) (x : List TDyadic) (B_x : Option Addr) (c_x : Nat), ST w [] w [] (⟨B_x, (x.flatMap eN0)⟩ :: Rf) → ∀ (y : Bool), f_ x = some y → CV Tryd.prog kf ((.slice B_x x.length c_x) :: caps.toList).toArray w (fun v w' => v = .bool y ∧ ST w [] w' [] [])) (hS : ST w0 [] w0 [] (⟨B, (D.flatMap eN2)⟩ :: ((D.flatMap eN1) ++ Rf))) {r_ : Bool} (hF : F_slices_ContainsFunc_SSimpl_Dyadic_impl_Dyadic s f_ = some r_) :
  CV Tryd.prog 17 #[.slice B n c, .func (.func kf) #[] caps] w0 (fun v w' => v = .bool r_ ∧ ST w0 [] w' [] []) := by
 subst hn
 unfold F_slices_ContainsFunc_SSimpl_Dyadic_impl_Dyadic at hF
 refine cv_of_cw 9 Tryd.func17 rfl Tryd.ntmps17 rfl ?_
 refine cw_seq ?_
 refine cw_region ?_
 refine sq 4 rfl rfl (Y_assign (v := .bool false) rfl rfl) ?_
 refine rw_nil ?_
 refine cw_seq ?_
 refine cw_region ?_
 refine sq 5 rfl rfl (Y_move (v := .slice B s.length c) rfl rfl) ?_
 refine sq 6 rfl rfl (Y_move (v := .func (.func kf) #[] caps) rfl rfl) ?_
 obtain ⟨r_1, hc, hF⟩ := bind_inv hF
 refine sc 7 rfl rfl (Yc_func (g := 30) (vs := [.slice B s.length c, .func (.func kf) #[] caps]) k_call_30 rfl (mc rfl (mc rfl mn)) (c_slices_IndexFunc_SSimpl_Dyadic_impl_Dyadic s f_ B c s.length D kf caps Rf _ (dl_fl hD (dl_len hD)) hD hk hp (hS.innS (subc (mem_at (i := 0) rfl) (fun _ h => List.mem_of_mem_drop (i := 1) h))) hc)) ?_
 rintro _ w_ ⟨rfl, hd⟩
 have hS1 := hS.out00 hd
 refine sq 8 rfl rfl (Y_ge (k := .i64) (a := r_1) (b := 0) rfl rfl rfl) ?_
 refine sq 4 rfl rfl (Y_assign (v := .bool (decide (0 ≤ r_1))) rfl rfl) ?_
 refine rw_nil ?_
 refine cw_ret ?_
 obtain rfl := some_inj hF
 exact ret1 Tryd.results17 (v1 := .bool (decide (0 ≤ r_1))) (resAt_tmp rfl) ⟨rfl, (ST.subR (R' := []) (hS1.sel [] rfl rfl) (fun _ h => by cases h))⟩

theorem c_impl_cliffordList_1 (own : List TDyadic) (p : List TDyadic) (B : Option Addr) (c n : Nat) (B1 : Option Addr) (B2 : Option Addr) (c1 n1 : Nat) (w0 : World) (hn : own.length = n) (hn1 : p.length = n1) (hS : ST w0 [] w0 [] [⟨B, (own.flatMap eN0)⟩, ⟨B1, [.slice B2 n1 c1]⟩, ⟨B2, (p.flatMap eN0)⟩]) {r_ : Bool} (hF : F_impl_cliffordList_1 own p = some r_) :
  CV Tryd.prog 18 #[.slice B n c, pt B1 0] w0 (fun v w' => v = .bool r_ ∧ ST w0 [] w' [] []) := by
 subst hn
 subst hn1
 unfold F_impl_cliffordList_1 at hF
 refine cv_of_cw 7 Tryd.func18 rfl Tryd.ntmps18 rfl ?_
 refine cw_seq ?_
 refine cw_region ?_
 refine sq 3 rfl rfl (Y_assign (v := .bool false) rfl rfl) ?_
 refine rw_nil ?_
 refine cw_seq ?_
 refine cw_region ?_
 refine sq 4 rfl rfl (Y_move (v := .slice B own.length c) rfl rfl) ?_
 refine sq 5 rfl rfl (Y_load1 (B := B1) (i := 0) (cs := [.slice B2 p.length c1]) (v := .slice B2 p.length c1) k_sc_32 rfl rfl (hS.rf (i := 1) rfl) rfl) ?_
 obtain ⟨r_1, hc, hF⟩ := bind_inv hF
 refine sc 6 rfl rfl (Yc_func (g := 19) (vs := [.slice B own.length c, .slice B2 p.length c1]) k_call_19 rfl (mc rfl (mc rfl mn)) (c_slices_Equal_impl_Dyadic_impl_Dyadic own p B c own.length B2 c1 p.length _ rfl rfl (hS.inn0 [(true, 0), (true, 2)] rfl) hc)) ?_
 rintro _ w_ ⟨rfl, hd⟩
 have hS1 := hS.out00 hd
 refine sq 3 rfl rfl (Y_assign (v := .bool r_1) rfl rfl) ?_
 refine rw_nil ?_
 refine cw_ret ?_
 obtain rfl := some_inj hF
 exact ret1 Tryd.results18 (v1 := .bool r_1) (resAt_tmp rfl) ⟨rfl, (ST.subR (R' := []) (hS1.sel [] rfl rfl) (fun _ h => by cases h))⟩
end Go.VK
