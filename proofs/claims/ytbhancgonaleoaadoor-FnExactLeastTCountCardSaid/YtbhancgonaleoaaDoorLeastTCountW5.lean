/- Walks: each Go function returns what its Lean function says. By program. -/
import Derived.Test.YtbhancgonaleoaaDoorLeastTCountFa
import Derived.Test.YtbhancgonaleoaaDoorLeastTCountW4
set_option linter.unusedVariables false
set_option maxRecDepth 100000
set_option maxHeartbeats 1000000
namespace Go.VK
open Go.RowKit
open Go.Proofs
open Go.IntKind
attribute [local irreducible] CW RW RA CV Y Yw Yc Ys RetOf
attribute [local irreducible] F_laws_szDyadicS F_laws_szMatrix F_laws_toRing F_laws_toDyadic F_laws_toDyadicS F_laws_toMatrix F_laws_eqRing F_laws_eqDyadic F_laws_eqDyadicS F_laws_eqMatrix F_spec_l1In F_spec_l1All F_spec_l1Good F_spec_l2C_ring F_spec_l1Root F_spec_l1Even F_spec_l1Half F_spec_l2Low F_spec_l1Add F_spec_l2C_add F_spec_l1Mul F_spec_l2C_mul F_spec_l2C_times F_spec_l1Conj F_spec_l2Conj F_spec_l3Adj F_spec_l1Has F_spec_l3Dim F_spec_l2Good F_spec_l3Good F_spec_EqualMatrices F_spec_l1Turn F_spec_l2Power F_spec_l3Unit F_spec_IsUnitary F_spec_l9Good F_spec_l1Neg F_spec_l2Neg F_spec_l6One F_spec_l9Pauli F_spec_l9Bloch F_spec_BlochOf F_spec_l1Most F_spec_l9Exp F_spec_LeastTCount F_impl_within F_impl_isDim F_slices_IndexFunc_impl_Dyadic_impl_Dyadic F_slices_ContainsFunc_impl_Dyadic_impl_Dyadic F_impl_isCoef F_impl_IsValidRing F_impl_isEven F_impl_IsValidDyadic F_impl_IsValidMatrix_1 F_impl_IsValidMatrix F_impl_matrixOf F_impl_ringIf F_impl_Conjugate F_impl_ConjDyadic F_impl_Matrix_at F_impl_Adjoint_1 F_impl_Adjoint F_impl_MulRing F_impl_DivRootTwo F_impl_DyadicOf F_impl_MulDyadic F_impl_MulRootTwo F_impl_raised F_impl_combined F_impl_AddRing F_impl_AddDyadic F_impl_MulMatrix_1 F_impl_MulMatrix F_impl_whole F_impl_IdentityMatrix_1 F_impl_IdentityMatrix F_slices_Equal_impl_Dyadic_impl_Dyadic F_impl_EqualMatrices F_impl_IsUnitary F_impl_IsOneQubit F_impl_isTwo F_impl_IsValidGate F_impl_MulOmega F_impl_phase F_impl_bitOf F_impl_flipped F_impl_comesFrom F_impl_small F_impl_entry F_impl_GateMatrix_1 F_impl_GateMatrix F_impl_TraceOf F_impl_blochCell F_impl_BlochOf F_impl_blochExp F_impl_LeastTCount F_laws_FnExactLeastTCount
theorem c_impl_entry (kind : Int) (i : Int) (j : Int)  (w0 : World)  (hS : ST w0 [] w0 [] []) {r_ : TDyadic} (hF : F_impl_entry kind i j = some r_) :
    CV Tryd.prog 73 #[vi kind, vi i, vi j] w0 (fun v w' => v = .agg #[vi r_.Num.A, vi r_.Num.B, vi r_.Num.C, vi r_.Num.D, vi r_.Exp] ∧ ST w0 [] w' [] []) := by
  unfold F_impl_entry at hF
  refine cv_of_cw 67 Tryd.func73 rfl Tryd.ntmps73 rfl ?_
  refine cw_seq ?_
  refine cw_region ?_
  refine ss 6 rfl rfl (Ys_alloc (T := 49) (cs := [vi 0, vi 0, vi 0, vi 0, vi 0]) (m := 5) hS k_zero_49 rfl rfl rfl) ?_
  rintro _ w_ ⟨b, rfl, hS1⟩
  refine rw_nil ?_
  refine cw_seq ?_
  refine cw_region ?_
  refine sq 9 rfl rfl (Y_buildS (zs := [vi 0, vi 0, vi 0, vi 0]) (vs := [(0, vi 1)]) (cs := [vi 1, vi 0, vi 0, vi 0]) k_pl_47 k_zero_47 rfl (mpc rfl mpn) rfl) ?_
  refine sq 10 rfl rfl (Y_buildS (zs := [vi 0, vi 0, vi 0, vi 0, vi 0]) (vs := [(0, .agg #[vi 1, vi 0, vi 0, vi 0]), (1, vi 1)]) (cs := [vi 1, vi 0, vi 0, vi 0, vi 1]) k_pl_49 k_zero_49 rfl (mpc rfl (mpc rfl mpn)) rfl) ?_
  refine ss 7 rfl rfl (Ys_alloc (T := 49) (cs := [vi 0, vi 0, vi 0, vi 0, vi 0]) (m := 5) hS1 k_zero_49 rfl rfl rfl) ?_
  rintro _ w_1 ⟨b1, rfl, hS2⟩
  have hS2 : ST w0 [] _ [⟨some ⟨b, 0, none⟩, 49, [vi 0, vi 0, vi 0, vi 0, vi 0], 5⟩, ⟨some ⟨b1, 0, none⟩, 49, [vi 0, vi 0, vi 0, vi 0, vi 0], 5⟩] [] := hS2
  refine ss0 rfl rfl (Ys_store (i := 1) (s := 5) (B := some ⟨b1, 0, none⟩) (T' := 49) (v := .agg #[vi 1, vi 0, vi 0, vi 0, vi 1]) (vs := [vi 1, vi 0, vi 0, vi 0, vi 1]) (k := 0) (cs' := [vi 1, vi 0, vi 0, vi 0, vi 1]) hS2 k_sz_49_5 rfl rfl rfl rfl rfl rfl rfl (Nat.le_of_ble_eq_true rfl) rfl rfl) ?_
  rintro _ w_2 ⟨rfl, hS3⟩
  have hS3 : ST w0 [] _ [⟨some ⟨b, 0, none⟩, 49, [vi 0, vi 0, vi 0, vi 0, vi 0], 5⟩, ⟨some ⟨b1, 0, none⟩, 49, [vi 1, vi 0, vi 0, vi 0, vi 1], 5⟩] [] := hS3
  refine rw_nil ?_
  refine cw_seq ?_
  refine cw_region ?_
  refine ss 11 rfl rfl (Ys_makeMap (T := 108) hS3 rfl) ?_
  rintro _ w_3 ⟨g, rfl, hS4⟩
  have hS5 := hS4.st
  have hS5 : ST w0 [] _ [⟨some ⟨b, 0, none⟩, 49, [vi 0, vi 0, vi 0, vi 0, vi 0], 5⟩, ⟨some ⟨b1, 0, none⟩, 49, [vi 1, vi 0, vi 0, vi 0, vi 1], 5⟩] [] := hS5
  refine ss0 rfl rfl (Ys_insert (kd := .i64) (ed := .i64) (a := 4) (b := 4) (es := #[]) hS4 k_map_108_3_3 k_int_3_i64 rfl rfl rfl rfl rfl) ?_
  rintro _ w_4 ⟨rfl, hS6⟩
  have hS7 := hS6.st
  have hS7 : ST w0 [] _ [⟨some ⟨b, 0, none⟩, 49, [vi 0, vi 0, vi 0, vi 0, vi 0], 5⟩, ⟨some ⟨b1, 0, none⟩, 49, [vi 1, vi 0, vi 0, vi 0, vi 1], 5⟩] [] := hS7
  refine ss0 rfl rfl (Ys_insert (kd := .i64) (ed := .i64) (a := 5) (b := 2) (es := (#[].push ⟨vi 4, vi 4, 0⟩)) hS6 k_map_108_3_3 k_int_3_i64 rfl rfl rfl rfl rfl) ?_
  rintro _ w_5 ⟨rfl, hS8⟩
  have hS9 := hS8.st
  have hS9 : ST w0 [] _ [⟨some ⟨b, 0, none⟩, 49, [vi 0, vi 0, vi 0, vi 0, vi 0], 5⟩, ⟨some ⟨b1, 0, none⟩, 49, [vi 1, vi 0, vi 0, vi 0, vi 1], 5⟩] [] := hS9
  refine ss0 rfl rfl (Ys_insert (kd := .i64) (ed := .i64) (a := 6) (b := 6) (es := ((#[].push ⟨vi 4, vi 4, 0⟩).push ⟨vi 5, vi 2, 1⟩)) hS8 k_map_108_3_3 k_int_3_i64 rfl rfl rfl rfl rfl) ?_
  rintro _ w_6 ⟨rfl, hS10⟩
  have hS11 := hS10.st
  have hS11 : ST w0 [] _ [⟨some ⟨b, 0, none⟩, 49, [vi 0, vi 0, vi 0, vi 0, vi 0], 5⟩, ⟨some ⟨b1, 0, none⟩, 49, [vi 1, vi 0, vi 0, vi 0, vi 1], 5⟩] [] := hS11
  refine ss0 rfl rfl (Ys_insert (kd := .i64) (ed := .i64) (a := 7) (b := 1) (es := (((#[].push ⟨vi 4, vi 4, 0⟩).push ⟨vi 5, vi 2, 1⟩).push ⟨vi 6, vi 6, 2⟩)) hS10 k_map_108_3_3 k_int_3_i64 rfl rfl rfl rfl rfl) ?_
  rintro _ w_7 ⟨rfl, hS12⟩
  have hS13 := hS12.st
  have hS13 : ST w0 [] _ [⟨some ⟨b, 0, none⟩, 49, [vi 0, vi 0, vi 0, vi 0, vi 0], 5⟩, ⟨some ⟨b1, 0, none⟩, 49, [vi 1, vi 0, vi 0, vi 0, vi 1], 5⟩] [] := hS13
  refine ss0 rfl rfl (Ys_insert (kd := .i64) (ed := .i64) (a := 8) (b := 7) (es := ((((#[].push ⟨vi 4, vi 4, 0⟩).push ⟨vi 5, vi 2, 1⟩).push ⟨vi 6, vi 6, 2⟩).push ⟨vi 7, vi 1, 3⟩)) hS12 k_map_108_3_3 k_int_3_i64 rfl rfl rfl rfl rfl) ?_
  rintro _ w_8 ⟨rfl, hS14⟩
  have hS15 := hS14.st
  have hS15 : ST w0 [] _ [⟨some ⟨b, 0, none⟩, 49, [vi 0, vi 0, vi 0, vi 0, vi 0], 5⟩, ⟨some ⟨b1, 0, none⟩, 49, [vi 1, vi 0, vi 0, vi 0, vi 1], 5⟩] [] := hS15
  refine sq 12 rfl rfl (Y_move (v := .map (some g)) rfl rfl) ?_
  refine sq 8 rfl rfl (Y_assign (v := .map (some g)) rfl rfl) ?_
  refine rw_nil ?_
  refine cw_seq ?_
  refine cw_block ?_
  refine cw_seq ?_
  refine cw_region ?_
  refine sq 14 rfl rfl (Y_move (v := vi kind) rfl rfl) ?_
  refine sq 15 rfl rfl (Y_eq (k := .i64) (a := kind) (b := 1) rfl rfl rfl) ?_
  refine sq 13 rfl rfl (Y_assign (v := .bool (kind == 1)) rfl rfl) ?_
  refine rw_nil ?_
  refine cw_cond (b := (kind == 1)) rfl (fun hb => ?_) (fun hb => ?_)
  · skip
    have hF1 := ct hF hb
    refine cw_seq ?_
    obtain ⟨z, hz, hF2⟩ := bind_inv hF1
    refine cw_mid (fun f w => ∃ (A : Int), A = z ∧ FF f [(6, pt (some ⟨b, 0, none⟩) 0), (7, pt (some ⟨b1, 0, none⟩) 0)] ∧ ST w0 [] w [⟨some ⟨b, 0, none⟩, 49, [vi 0, vi 0, vi 0, vi 0, vi 0], 5⟩, ⟨some ⟨b1, 0, none⟩, 49, [vi A, vi 0, vi 0, vi 0, vi 1], 5⟩] []) ?_ ?_
    · skip
      refine cw_seq ?_
      refine cw_region ?_
      refine sq 16 rfl rfl (Y_move (v := vi i) rfl rfl) ?_
      refine sq 17 rfl rfl (Y_eq (k := .i64) (a := i) (b := 1) rfl rfl rfl) ?_
      refine sq 18 rfl rfl (Y_move (v := .bool (i == 1)) rfl rfl) ?_
      refine sgq 19 (B := (i == 1)) (v := vi j) rfl rfl (wt_t (gd_of (t := 18) (by kernel_rfl) rfl)) (fun hg => (Y_move (v := vi j) rfl rfl)) ?_
      refine sgq 20 (B := (i == 1)) (v := .bool (j == 1)) rfl rfl (wt_t (gd_of (t := 18) (by kernel_rfl) rfl)) (fun hg1 => (Y_eq (k := .i64) (a := j) (b := 1) rfl (gv_of (B := (i == 1)) (v := vi j) hg1) rfl)) ?_
      refine sq 21 rfl rfl (Y_and (b := (i == 1)) (z := (j == 1)) rfl rfl rfl rfl) ?_
      refine rw_nil ?_
      refine cw_cond (b := ((i == 1) && (j == 1))) rfl (fun hb1 => ?_) (fun hb1 => ?_)
      · skip
        have hF3 := ct hz hb1
        refine cw_region ?_
        refine sq 22 rfl rfl (Y_fieldAddr (B := some ⟨b1, 0, none⟩) (i := 0) (s := 3) k_fd_49_0_0_47 k_sz_47_4 rfl rfl) ?_
        refine sq 23 rfl rfl (Y_fieldAddr (B := some ⟨b1, 0, none⟩) (i := 0) (s := 0) k_fd_47_0_0_3 k_sz_3_1 rfl rfl) ?_
        refine ss0 rfl rfl (Ys_store (i := 1) (s := 1) (B := some ⟨b1, 0, none⟩) (T' := 49) (v := vi (-1)) (vs := [vi (-1)]) (k := 0) (cs' := [vi (-1), vi 0, vi 0, vi 0, vi 1]) hS15 k_sz_3_1 rfl rfl rfl rfl rfl rfl rfl (Nat.le_of_ble_eq_true rfl) rfl rfl) ?_
        rintro _ w_9 ⟨rfl, hS17⟩
        have hS17 : ST w0 [] _ [⟨some ⟨b, 0, none⟩, 49, [vi 0, vi 0, vi 0, vi 0, vi 0], 5⟩, ⟨some ⟨b1, 0, none⟩, 49, [vi (-1), vi 0, vi 0, vi 0, vi 1], 5⟩] [] := hS17
        refine rw_nil ?_
        exact ⟨(-1), (some_inj hF3), (FF.cons rfl (FF.cons rfl FF.nil)), (hS17.sel [0, 1] rfl rfl)⟩
      · skip
        have hF4 := cf' hz hb1
        refine cw_skip ?_
        exact ⟨1, (some_inj hF4), (FF.cons rfl (FF.cons rfl FF.nil)), (hS15.sel [0, 1] rfl rfl)⟩
    rintro f w ⟨A, rfl, hf, hS16⟩
    refine cw_seq ?_
    refine cw_region ?_
    refine sq 24 rfl rfl (Y_loadA (B := some ⟨b1, 0, none⟩) (i := 0) (cs := [vi A, vi 0, vi 0, vi 0, vi 1]) (vs := [vi A, vi 0, vi 0, vi 0, vi 1]) k_ag_49 k_sz_49_5 rfl (hf.get 7 1 rfl) (hS16.cf (i := 1) rfl) rfl rfl) ?_
    refine ss0 rfl rfl (Ys_store (i := 0) (s := 5) (B := some ⟨b, 0, none⟩) (T' := 49) (v := .agg #[vi A, vi 0, vi 0, vi 0, vi 1]) (vs := [vi A, vi 0, vi 0, vi 0, vi 1]) (k := 0) (cs' := [vi A, vi 0, vi 0, vi 0, vi 1]) hS16 k_sz_49_5 rfl (hf.get 6 0 rfl) rfl rfl rfl rfl rfl (Nat.le_of_ble_eq_true rfl) rfl rfl) ?_
    rintro _ w_10 ⟨rfl, hS18⟩
    have hS18 : ST w0 [] _ [⟨some ⟨b, 0, none⟩, 49, [vi A, vi 0, vi 0, vi 0, vi 1], 5⟩, ⟨some ⟨b1, 0, none⟩, 49, [vi A, vi 0, vi 0, vi 0, vi 1], 5⟩] [] := hS18
    refine rw_nil ?_
    refine cw_ret ?_
    obtain rfl := some_inj hF2
    exact ret1 Tryd.results73 (v1 := .agg #[vi A, vi 0, vi 0, vi 0, vi 1]) (resAt_cellA (B := some ⟨b, 0, none⟩) (i := 0) (cs := [vi A, vi 0, vi 0, vi 0, vi 1]) (vs := [vi A, vi 0, vi 0, vi 0, vi 1]) (hf.get 6 0 rfl) k_ag_49 k_sz_49_5 (hS18.cf (i := 0) rfl) rfl rfl) ⟨rfl, (ST.subR (R' := []) (hS18.sel [] rfl rfl) (fun _ h => by cases h))⟩
  · skip
    have hF5 := cf' hF hb
    refine cw_seq ?_
    refine cw_region ?_
    refine sq 26 rfl rfl (Y_move (v := vi kind) rfl rfl) ?_
    refine sq 27 rfl rfl (Y_eq (k := .i64) (a := kind) (b := 2) rfl rfl rfl) ?_
    refine sq 28 rfl rfl (Y_move (v := .bool (kind == 2)) rfl rfl) ?_
    refine sgq 29 (B := (kind == 2)) (v := vi i) rfl rfl (wt_t (gd_of (t := 28) (by kernel_rfl) rfl)) (fun hg2 => (Y_move (v := vi i) rfl rfl)) ?_
    refine sgq 30 (B := (kind == 2)) (v := vi j) rfl rfl (wt_t (gd_of (t := 28) (by kernel_rfl) rfl)) (fun hg3 => (Y_move (v := vi j) rfl rfl)) ?_
    refine sgq 31 (B := (kind == 2)) (v := .bool (i != j)) rfl rfl (wt_t (gd_of (t := 28) (by kernel_rfl) rfl)) (fun hg4 => (Y_ne (k := .i64) (a := i) (b := j) rfl (gv_of (B := (kind == 2)) (v := vi i) hg4) (gv_of (B := (kind == 2)) (v := vi j) hg4))) ?_
    refine sq 32 rfl rfl (Y_and (b := (kind == 2)) (z := (i != j)) rfl rfl rfl rfl) ?_
    refine sq 25 rfl rfl (Y_assign (v := .bool ((kind == 2) && (i != j))) rfl rfl) ?_
    refine rw_nil ?_
    refine cw_cond (b := ((kind == 2) && (i != j))) rfl (fun hb2 => ?_) (fun hb2 => ?_)
    · skip
      have hF6 := ct hF5 hb2
      refine cw_seq ?_
      refine cw_region ?_
      obtain ⟨r_1, hc, hF6⟩ := bind_inv hF6
      refine sc 33 rfl rfl (Yc_func (g := 92) (vs := [vi 1]) k_call_92 rfl (mc rfl mn) (c_impl_whole 1 _  (hS15.inn0 [] rfl) hc)) ?_
      rintro _ w_11 ⟨rfl, hd⟩
      have hS19 := hS15.out00 hd
      have hS19 : ST w0 [] _ [⟨some ⟨b, 0, none⟩, 49, [vi 0, vi 0, vi 0, vi 0, vi 0], 5⟩, ⟨some ⟨b1, 0, none⟩, 49, [vi 1, vi 0, vi 0, vi 0, vi 1], 5⟩] [] := hS19
      refine ss0 rfl rfl (Ys_store (i := 0) (s := 5) (B := some ⟨b, 0, none⟩) (T' := 49) (v := .agg #[vi r_1.Num.A, vi r_1.Num.B, vi r_1.Num.C, vi r_1.Num.D, vi r_1.Exp]) (vs := [vi r_1.Num.A, vi r_1.Num.B, vi r_1.Num.C, vi r_1.Num.D, vi r_1.Exp]) (k := 0) (cs' := [vi r_1.Num.A, vi r_1.Num.B, vi r_1.Num.C, vi r_1.Num.D, vi r_1.Exp]) hS19 k_sz_49_5 rfl rfl rfl rfl rfl rfl rfl (Nat.le_of_ble_eq_true rfl) rfl rfl) ?_
      rintro _ w_12 ⟨rfl, hS20⟩
      have hS20 : ST w0 [] _ [⟨some ⟨b, 0, none⟩, 49, [vi r_1.Num.A, vi r_1.Num.B, vi r_1.Num.C, vi r_1.Num.D, vi r_1.Exp], 5⟩, ⟨some ⟨b1, 0, none⟩, 49, [vi 1, vi 0, vi 0, vi 0, vi 1], 5⟩] [] := hS20
      refine rw_nil ?_
      refine cw_ret ?_
      obtain rfl := some_inj hF6
      exact ret1 Tryd.results73 (v1 := .agg #[vi r_1.Num.A, vi r_1.Num.B, vi r_1.Num.C, vi r_1.Num.D, vi r_1.Exp]) (resAt_cellA (B := some ⟨b, 0, none⟩) (i := 0) (cs := [vi r_1.Num.A, vi r_1.Num.B, vi r_1.Num.C, vi r_1.Num.D, vi r_1.Exp]) (vs := [vi r_1.Num.A, vi r_1.Num.B, vi r_1.Num.C, vi r_1.Num.D, vi r_1.Exp]) rfl k_ag_49 k_sz_49_5 (hS20.cf (i := 0) rfl) rfl rfl) ⟨rfl, (ST.subR (R' := []) (hS20.sel [] rfl rfl) (fun _ h => by cases h))⟩
    · skip
      have hF7 := cf' hF5 hb2
      refine cw_seq ?_
      refine cw_region ?_
      refine sq 35 rfl rfl (Y_move (v := vi kind) rfl rfl) ?_
      refine sq 36 rfl rfl (Y_eq (k := .i64) (a := kind) (b := 3) rfl rfl rfl) ?_
      refine sq 37 rfl rfl (Y_move (v := .bool (kind == 3)) rfl rfl) ?_
      refine sgq 38 (B := (kind == 3)) (v := vi i) rfl rfl (wt_t (gd_of (t := 37) (by kernel_rfl) rfl)) (fun hg5 => (Y_move (v := vi i) rfl rfl)) ?_
      refine sgq 39 (B := (kind == 3)) (v := vi j) rfl rfl (wt_t (gd_of (t := 37) (by kernel_rfl) rfl)) (fun hg6 => (Y_move (v := vi j) rfl rfl)) ?_
      refine sgq 40 (B := (kind == 3)) (v := .bool (i != j)) rfl rfl (wt_t (gd_of (t := 37) (by kernel_rfl) rfl)) (fun hg7 => (Y_ne (k := .i64) (a := i) (b := j) rfl (gv_of (B := (kind == 3)) (v := vi i) hg7) (gv_of (B := (kind == 3)) (v := vi j) hg7))) ?_
      refine sq 41 rfl rfl (Y_and (b := (kind == 3)) (z := (i != j)) rfl rfl rfl rfl) ?_
      refine sq 34 rfl rfl (Y_assign (v := .bool ((kind == 3) && (i != j))) rfl rfl) ?_
      refine rw_nil ?_
      refine cw_cond (b := ((kind == 3) && (i != j))) rfl (fun hb3 => ?_) (fun hb3 => ?_)
      · skip
        have hF8 := ct hF7 hb3
        refine cw_seq ?_
        refine cw_region ?_
        refine sq 42 rfl rfl (Y_move (v := vi j) rfl rfl) ?_
        refine sq 43 rfl rfl (Y_mul (k := .i64) (a := 4) (b := j) rfl rfl rfl) ?_
        refine sq 44 rfl rfl (Y_add (k := .i64) (a := 2) (b := (i64.wrap (4 * j))) rfl rfl rfl) ?_
        obtain ⟨r_2, hc1, hF8⟩ := bind_inv hF8
        refine sc 45 rfl rfl (Yc_func (g := 67) (vs := [vi (i64.wrap (2 + (i64.wrap (4 * j))))]) k_call_67 rfl (mc rfl mn) (c_impl_phase (i64.wrap (2 + (i64.wrap (4 * j)))) _  (hS15.inn0 [] rfl) hc1)) ?_
        rintro _ w_13 ⟨rfl, hd1⟩
        have hS21 := hS15.out00 hd1
        have hS21 : ST w0 [] _ [⟨some ⟨b, 0, none⟩, 49, [vi 0, vi 0, vi 0, vi 0, vi 0], 5⟩, ⟨some ⟨b1, 0, none⟩, 49, [vi 1, vi 0, vi 0, vi 0, vi 1], 5⟩] [] := hS21
        refine ss0 rfl rfl (Ys_store (i := 0) (s := 5) (B := some ⟨b, 0, none⟩) (T' := 49) (v := .agg #[vi r_2.Num.A, vi r_2.Num.B, vi r_2.Num.C, vi r_2.Num.D, vi r_2.Exp]) (vs := [vi r_2.Num.A, vi r_2.Num.B, vi r_2.Num.C, vi r_2.Num.D, vi r_2.Exp]) (k := 0) (cs' := [vi r_2.Num.A, vi r_2.Num.B, vi r_2.Num.C, vi r_2.Num.D, vi r_2.Exp]) hS21 k_sz_49_5 rfl rfl rfl rfl rfl rfl rfl (Nat.le_of_ble_eq_true rfl) rfl rfl) ?_
        rintro _ w_14 ⟨rfl, hS22⟩
        have hS22 : ST w0 [] _ [⟨some ⟨b, 0, none⟩, 49, [vi r_2.Num.A, vi r_2.Num.B, vi r_2.Num.C, vi r_2.Num.D, vi r_2.Exp], 5⟩, ⟨some ⟨b1, 0, none⟩, 49, [vi 1, vi 0, vi 0, vi 0, vi 1], 5⟩] [] := hS22
        refine rw_nil ?_
        refine cw_ret ?_
        obtain rfl := some_inj hF8
        exact ret1 Tryd.results73 (v1 := .agg #[vi r_2.Num.A, vi r_2.Num.B, vi r_2.Num.C, vi r_2.Num.D, vi r_2.Exp]) (resAt_cellA (B := some ⟨b, 0, none⟩) (i := 0) (cs := [vi r_2.Num.A, vi r_2.Num.B, vi r_2.Num.C, vi r_2.Num.D, vi r_2.Exp]) (vs := [vi r_2.Num.A, vi r_2.Num.B, vi r_2.Num.C, vi r_2.Num.D, vi r_2.Exp]) rfl k_ag_49 k_sz_49_5 (hS22.cf (i := 0) rfl) rfl rfl) ⟨rfl, (ST.subR (R' := []) (hS22.sel [] rfl rfl) (fun _ h => by cases h))⟩
      · skip
        have hF9 := cf' hF7 hb3
        refine cw_seq ?_
        refine cw_region ?_
        refine sq 47 rfl rfl (Y_move (v := vi kind) rfl rfl) ?_
        refine sq 48 rfl rfl (Y_eq (k := .i64) (a := kind) (b := 2) rfl rfl rfl) ?_
        refine sq 49 rfl rfl (Y_move (v := .bool (kind == 2)) rfl rfl) ?_
        refine sgq 50 (B := (!(kind == 2))) (v := vi kind) rfl rfl (wt_f (gd_of (t := 49) (by kernel_rfl) rfl)) (fun hg8 => (Y_move (v := vi kind) rfl rfl)) ?_
        refine sgq 51 (B := (!(kind == 2))) (v := .bool (kind == 3)) rfl rfl (wt_f (gd_of (t := 49) (by kernel_rfl) rfl)) (fun hg9 => (Y_eq (k := .i64) (a := kind) (b := 3) rfl (gv_of (B := (!(kind == 2))) (v := vi kind) hg9) rfl)) ?_
        refine sq 52 rfl rfl (Y_or (b := (kind == 2)) (z := (kind == 3)) rfl rfl rfl rfl) ?_
        refine sq 53 rfl rfl (Y_move (v := .bool ((kind == 2) || (kind == 3))) rfl rfl) ?_
        refine sgq 54 (B := (!((kind == 2) || (kind == 3)))) (v := vi i) rfl rfl (wt_f (gd_of (t := 53) (by kernel_rfl) rfl)) (fun hg10 => (Y_move (v := vi i) rfl rfl)) ?_
        refine sgq 55 (B := (!((kind == 2) || (kind == 3)))) (v := vi j) rfl rfl (wt_f (gd_of (t := 53) (by kernel_rfl) rfl)) (fun hg11 => (Y_move (v := vi j) rfl rfl)) ?_
        refine sgq 56 (B := (!((kind == 2) || (kind == 3)))) (v := .bool (i != j)) rfl rfl (wt_f (gd_of (t := 53) (by kernel_rfl) rfl)) (fun hg12 => (Y_ne (k := .i64) (a := i) (b := j) rfl (gv_of (B := (!((kind == 2) || (kind == 3)))) (v := vi i) hg12) (gv_of (B := (!((kind == 2) || (kind == 3)))) (v := vi j) hg12))) ?_
        refine sq 57 rfl rfl (Y_or (b := ((kind == 2) || (kind == 3))) (z := (i != j)) rfl rfl rfl rfl) ?_
        refine sq 46 rfl rfl (Y_assign (v := .bool (((kind == 2) || (kind == 3)) || (i != j))) rfl rfl) ?_
        refine rw_nil ?_
        refine cw_cond (b := (((kind == 2) || (kind == 3)) || (i != j))) rfl (fun hb4 => ?_) (fun hb4 => ?_)
        · skip
          have hF10 := ct hF9 hb4
          refine cw_seq ?_
          refine cw_region ?_
          refine sq 58 rfl rfl (Y_buildS (zs := [vi 0, vi 0, vi 0, vi 0, vi 0]) (vs := []) (cs := [vi 0, vi 0, vi 0, vi 0, vi 0]) k_pl_49 k_zero_49 rfl mpn rfl) ?_
          refine ss0 rfl rfl (Ys_store (i := 0) (s := 5) (B := some ⟨b, 0, none⟩) (T' := 49) (v := .agg #[vi 0, vi 0, vi 0, vi 0, vi 0]) (vs := [vi 0, vi 0, vi 0, vi 0, vi 0]) (k := 0) (cs' := [vi 0, vi 0, vi 0, vi 0, vi 0]) hS15 k_sz_49_5 rfl rfl rfl rfl rfl rfl rfl (Nat.le_of_ble_eq_true rfl) rfl rfl) ?_
          rintro _ w_15 ⟨rfl, hS23⟩
          have hS23 : ST w0 [] _ [⟨some ⟨b, 0, none⟩, 49, [vi 0, vi 0, vi 0, vi 0, vi 0], 5⟩, ⟨some ⟨b1, 0, none⟩, 49, [vi 1, vi 0, vi 0, vi 0, vi 1], 5⟩] [] := hS23
          refine rw_nil ?_
          refine cw_ret ?_
          obtain rfl := some_inj hF10
          exact ret1 Tryd.results73 (v1 := .agg #[vi 0, vi 0, vi 0, vi 0, vi 0]) (resAt_cellA (B := some ⟨b, 0, none⟩) (i := 0) (cs := [vi 0, vi 0, vi 0, vi 0, vi 0]) (vs := [vi 0, vi 0, vi 0, vi 0, vi 0]) rfl k_ag_49 k_sz_49_5 (hS23.cf (i := 0) rfl) rfl rfl) ⟨rfl, (ST.subR (R' := []) (hS23.sel [] rfl rfl) (fun _ h => by cases h))⟩
        · skip
          have hF11 := cf' hF9 hb4
          refine cw_seq ?_
          refine cw_region ?_
          refine sq 60 rfl rfl (Y_move (v := vi i) rfl rfl) ?_
          refine sq 61 rfl rfl (Y_eq (k := .i64) (a := i) (b := 0) rfl rfl rfl) ?_
          refine sq 59 rfl rfl (Y_assign (v := .bool (i == 0)) rfl rfl) ?_
          refine rw_nil ?_
          refine cw_cond (b := (i == 0)) rfl (fun hb5 => ?_) (fun hb5 => ?_)
          · skip
            have hF12 := ct hF11 hb5
            refine cw_seq ?_
            refine cw_region ?_
            obtain ⟨r_3, hc2, hF12⟩ := bind_inv hF12
            refine sc 62 rfl rfl (Yc_func (g := 92) (vs := [vi 1]) k_call_92 rfl (mc rfl mn) (c_impl_whole 1 _  (hS15.inn0 [] rfl) hc2)) ?_
            rintro _ w_16 ⟨rfl, hd2⟩
            have hS24 := hS15.out00 hd2
            have hS24 : ST w0 [] _ [⟨some ⟨b, 0, none⟩, 49, [vi 0, vi 0, vi 0, vi 0, vi 0], 5⟩, ⟨some ⟨b1, 0, none⟩, 49, [vi 1, vi 0, vi 0, vi 0, vi 1], 5⟩] [] := hS24
            refine ss0 rfl rfl (Ys_store (i := 0) (s := 5) (B := some ⟨b, 0, none⟩) (T' := 49) (v := .agg #[vi r_3.Num.A, vi r_3.Num.B, vi r_3.Num.C, vi r_3.Num.D, vi r_3.Exp]) (vs := [vi r_3.Num.A, vi r_3.Num.B, vi r_3.Num.C, vi r_3.Num.D, vi r_3.Exp]) (k := 0) (cs' := [vi r_3.Num.A, vi r_3.Num.B, vi r_3.Num.C, vi r_3.Num.D, vi r_3.Exp]) hS24 k_sz_49_5 rfl rfl rfl rfl rfl rfl rfl (Nat.le_of_ble_eq_true rfl) rfl rfl) ?_
            rintro _ w_17 ⟨rfl, hS25⟩
            have hS25 : ST w0 [] _ [⟨some ⟨b, 0, none⟩, 49, [vi r_3.Num.A, vi r_3.Num.B, vi r_3.Num.C, vi r_3.Num.D, vi r_3.Exp], 5⟩, ⟨some ⟨b1, 0, none⟩, 49, [vi 1, vi 0, vi 0, vi 0, vi 1], 5⟩] [] := hS25
            refine rw_nil ?_
            refine cw_ret ?_
            obtain rfl := some_inj hF12
            exact ret1 Tryd.results73 (v1 := .agg #[vi r_3.Num.A, vi r_3.Num.B, vi r_3.Num.C, vi r_3.Num.D, vi r_3.Exp]) (resAt_cellA (B := some ⟨b, 0, none⟩) (i := 0) (cs := [vi r_3.Num.A, vi r_3.Num.B, vi r_3.Num.C, vi r_3.Num.D, vi r_3.Exp]) (vs := [vi r_3.Num.A, vi r_3.Num.B, vi r_3.Num.C, vi r_3.Num.D, vi r_3.Exp]) rfl k_ag_49 k_sz_49_5 (hS25.cf (i := 0) rfl) rfl rfl) ⟨rfl, (ST.subR (R' := []) (hS25.sel [] rfl rfl) (fun _ h => by cases h))⟩
          · skip
            have hF13 := cf' hF11 hb5
            refine cw_skip ?_
            refine cw_seq ?_
            refine cw_region ?_
            refine sq 63 rfl rfl (Y_move (v := .map (some g)) rfl rfl) ?_
            refine sq 64 rfl rfl (Y_move (v := vi kind) rfl rfl) ?_
            refine sq 65 rfl rfl (Y_lookup (kd := .i64) (ed := .i64) (k := kind) (l := [(4, 4), (5, 2), (6, 6), (7, 1), (8, 7)]) hS14.here rfl k_map_108_3_3 k_int_3_i64 k_zero_3 rfl rfl rfl) ?_
            obtain ⟨r_4, hc3, hF13⟩ := bind_inv hF13
            refine sc 66 rfl rfl (Yc_func (g := 67) (vs := [vi (mget [(4, 4), (5, 2), (6, 6), (7, 1), (8, 7)] kind)]) k_call_67 rfl (mc rfl mn) (c_impl_phase (mget [(4, 4), (5, 2), (6, 6), (7, 1), (8, 7)] kind) _  (hS15.inn0 [] rfl) hc3)) ?_
            rintro _ w_18 ⟨rfl, hd3⟩
            have hS26 := hS15.out00 hd3
            have hS26 : ST w0 [] _ [⟨some ⟨b, 0, none⟩, 49, [vi 0, vi 0, vi 0, vi 0, vi 0], 5⟩, ⟨some ⟨b1, 0, none⟩, 49, [vi 1, vi 0, vi 0, vi 0, vi 1], 5⟩] [] := hS26
            refine ss0 rfl rfl (Ys_store (i := 0) (s := 5) (B := some ⟨b, 0, none⟩) (T' := 49) (v := .agg #[vi r_4.Num.A, vi r_4.Num.B, vi r_4.Num.C, vi r_4.Num.D, vi r_4.Exp]) (vs := [vi r_4.Num.A, vi r_4.Num.B, vi r_4.Num.C, vi r_4.Num.D, vi r_4.Exp]) (k := 0) (cs' := [vi r_4.Num.A, vi r_4.Num.B, vi r_4.Num.C, vi r_4.Num.D, vi r_4.Exp]) hS26 k_sz_49_5 rfl rfl rfl rfl rfl rfl rfl (Nat.le_of_ble_eq_true rfl) rfl rfl) ?_
            rintro _ w_19 ⟨rfl, hS27⟩
            have hS27 : ST w0 [] _ [⟨some ⟨b, 0, none⟩, 49, [vi r_4.Num.A, vi r_4.Num.B, vi r_4.Num.C, vi r_4.Num.D, vi r_4.Exp], 5⟩, ⟨some ⟨b1, 0, none⟩, 49, [vi 1, vi 0, vi 0, vi 0, vi 1], 5⟩] [] := hS27
            refine rw_nil ?_
            refine cw_ret ?_
            obtain rfl := some_inj hF13
            exact ret1 Tryd.results73 (v1 := .agg #[vi r_4.Num.A, vi r_4.Num.B, vi r_4.Num.C, vi r_4.Num.D, vi r_4.Exp]) (resAt_cellA (B := some ⟨b, 0, none⟩) (i := 0) (cs := [vi r_4.Num.A, vi r_4.Num.B, vi r_4.Num.C, vi r_4.Num.D, vi r_4.Exp]) (vs := [vi r_4.Num.A, vi r_4.Num.B, vi r_4.Num.C, vi r_4.Num.D, vi r_4.Exp]) rfl k_ag_49 k_sz_49_5 (hS27.cf (i := 0) rfl) rfl rfl) ⟨rfl, (ST.subR (R' := []) (hS27.sel [] rfl rfl) (fun _ h => by cases h))⟩

theorem c_impl_GateMatrix_1 (i : Int) (j : Int) (p : TGate) (p1 : Int) (B : Option Addr) (B1 : Option Addr) (w0 : World)  (hS : ST w0 [] w0 [] [⟨B, [vi p.Kind, vi p.A, vi p.B]⟩, ⟨B1, [vi p1]⟩]) {r_ : TDyadic} {r_1 : Bool} (hF : F_impl_GateMatrix_1 i j p p1 = some (r_, r_1)) :
    CV Tryd.prog 66 #[vi i, vi j, pt B 0, pt B1 0] w0 (fun v w' => v = .tuple #[.agg #[vi r_.Num.A, vi r_.Num.B, vi r_.Num.C, vi r_.Num.D, vi r_.Exp], .bool r_1] ∧ ST w0 [] w' [] []) := by
  unfold F_impl_GateMatrix_1 at hF
  refine cv_of_cw 75 Tryd.func66 rfl Tryd.ntmps66 rfl ?_
  refine cw_seq ?_
  refine cw_region ?_
  refine ss 6 rfl rfl (Ys_alloc (T := 49) (cs := [vi 0, vi 0, vi 0, vi 0, vi 0]) (m := 5) hS k_zero_49 rfl rfl rfl) ?_
  rintro _ w_ ⟨b, rfl, hS1⟩
  refine sq 7 rfl rfl (Y_assign (v := .bool false) rfl rfl) ?_
  refine rw_nil ?_
  refine cw_seq ?_
  obtain ⟨z, hz, hF1⟩ := bind_inv hF
  refine cw_mid (fun f w => .inl () = z ∧ FF f [(6, pt (some ⟨b, 0, none⟩) 0)] ∧ ST w0 [] w [⟨some ⟨b, 0, none⟩, 49, [vi 0, vi 0, vi 0, vi 0, vi 0], 5⟩] [⟨B, [vi p.Kind, vi p.A, vi p.B]⟩, ⟨B1, [vi p1]⟩]) ?_ ?_
  · skip
    refine cw_block ?_
    refine cw_seq ?_
    refine cw_region ?_
    refine sq 9 rfl rfl (Y_fieldAddr (B := B) (i := 0) (s := 0) k_fd_75_0_0_3 k_sz_3_1 rfl rfl) ?_
    refine sq 10 rfl rfl (Y_load1 (B := B) (i := 0) (cs := [vi p.Kind, vi p.A, vi p.B]) (v := vi p.Kind) k_sc_3 rfl rfl (hS1.rf (i := 0) rfl) rfl) ?_
    refine sq 11 rfl rfl (Y_eq (k := .i64) (a := p.Kind) (b := 12) rfl rfl rfl) ?_
    refine sq 8 rfl rfl (Y_assign (v := .bool (p.Kind == 12)) rfl rfl) ?_
    refine rw_nil ?_
    refine cw_cond (b := (p.Kind == 12)) rfl (fun hb => ?_) (fun hb => ?_)
    · skip
      have hF2 := ct hz hb
      refine cw_seq ?_
      refine cw_region ?_
      refine sq 12 rfl rfl (Y_move (v := vi i) rfl rfl) ?_
      refine sq 13 rfl rfl (Y_move (v := vi j) rfl rfl) ?_
      refine sq 14 rfl rfl (Y_eq (k := .i64) (a := i) (b := j) rfl rfl rfl) ?_
      refine rw_nil ?_
      refine cw_cond (b := (i == j)) rfl (fun hb1 => ?_) (fun hb1 => ?_)
      · skip
        have hF3 := ct hF2 hb1
        refine cw_seq ?_
        refine cw_region ?_
        obtain ⟨r_2, hc, hF3⟩ := bind_inv hF3
        refine sc 15 rfl rfl (Yc_func (g := 67) (vs := [vi 1]) k_call_67 rfl (mc rfl mn) (c_impl_phase 1 _  (hS1.inn0 [] rfl) hc)) ?_
        rintro _ w_1 ⟨rfl, hd⟩
        have hS3 := hS1.out00 hd
        refine ss0 rfl rfl (Ys_store (i := 0) (s := 5) (B := some ⟨b, 0, none⟩) (T' := 49) (v := .agg #[vi r_2.Num.A, vi r_2.Num.B, vi r_2.Num.C, vi r_2.Num.D, vi r_2.Exp]) (vs := [vi r_2.Num.A, vi r_2.Num.B, vi r_2.Num.C, vi r_2.Num.D, vi r_2.Exp]) (k := 0) (cs' := [vi r_2.Num.A, vi r_2.Num.B, vi r_2.Num.C, vi r_2.Num.D, vi r_2.Exp]) hS3 k_sz_49_5 rfl rfl rfl rfl rfl rfl rfl (Nat.le_of_ble_eq_true rfl) rfl rfl) ?_
        rintro _ w_2 ⟨rfl, hS4⟩
        refine sq 7 rfl rfl (Y_assign (v := .bool true) rfl rfl) ?_
        refine rw_nil ?_
        refine cw_ret ?_
        obtain rfl := some_inj hF3
        obtain ⟨rfl, rfl⟩ := pr2 (some_inj hF1)
        exact ret2 Tryd.results66 (v1 := .agg #[vi r_2.Num.A, vi r_2.Num.B, vi r_2.Num.C, vi r_2.Num.D, vi r_2.Exp]) (resAt_cellA (B := some ⟨b, 0, none⟩) (i := 0) (cs := [vi r_2.Num.A, vi r_2.Num.B, vi r_2.Num.C, vi r_2.Num.D, vi r_2.Exp]) (vs := [vi r_2.Num.A, vi r_2.Num.B, vi r_2.Num.C, vi r_2.Num.D, vi r_2.Exp]) rfl k_ag_49 k_sz_49_5 (hS4.cf (i := 0) rfl) rfl rfl) (v2 := .bool true) (resAt_tmp rfl) ⟨rfl, (ST.subR (R' := []) (hS4.sel [] rfl rfl) (fun _ h => by cases h))⟩
      · skip
        have hF4 := cf' hF2 hb1
        refine cw_skip ?_
        exact ⟨(some_inj hF4), (FF.cons rfl FF.nil), (hS1.sel [0] rfl rfl)⟩
    · skip
      have hF5 := cf' hz hb
      refine cw_seq ?_
      refine cw_region ?_
      refine sq 17 rfl rfl (Y_fieldAddr (B := B) (i := 0) (s := 0) k_fd_75_0_0_3 k_sz_3_1 rfl rfl) ?_
      refine sq 18 rfl rfl (Y_load1 (B := B) (i := 0) (cs := [vi p.Kind, vi p.A, vi p.B]) (v := vi p.Kind) k_sc_3 rfl rfl (hS1.rf (i := 0) rfl) rfl) ?_
      obtain ⟨r_3, hc1, hF5⟩ := bind_inv hF5
      refine sc 19 rfl rfl (Yc_func (g := 68) (vs := [vi p.Kind]) k_call_68 rfl (mc rfl mn) (c_impl_isTwo p.Kind _  (hS1.inn0 [] rfl) hc1)) ?_
      rintro _ w_3 ⟨rfl, hd1⟩
      have hS5 := hS1.out00 hd1
      refine sq 16 rfl rfl (Y_assign (v := .bool r_3) rfl rfl) ?_
      refine rw_nil ?_
      refine cw_cond (b := r_3) rfl (fun hb2 => ?_) (fun hb2 => ?_)
      · skip
        have hF6 := ct hF5 hb2
        refine cw_seq ?_
        refine cw_region ?_
        refine sq 20 rfl rfl (Y_load1 (B := B1) (i := 0) (cs := [vi p1]) (v := vi p1) k_sc_3 rfl rfl (hS5.rf (i := 1) rfl) rfl) ?_
        refine sq 21 rfl rfl (Y_loadA (B := B) (i := 0) (cs := [vi p.Kind, vi p.A, vi p.B]) (vs := [vi p.Kind, vi p.A, vi p.B]) k_ag_75 k_sz_75_3 rfl rfl (hS5.rf (i := 0) rfl) rfl rfl) ?_
        refine sq 22 rfl rfl (Y_move (v := vi i) rfl rfl) ?_
        obtain ⟨r_4, hc2, hF6⟩ := bind_inv hF6
        refine sc 23 rfl rfl (Yc_func (g := 69) (vs := [vi p1, .agg #[vi p.Kind, vi p.A, vi p.B], vi i]) k_call_69 rfl (mc rfl (mc rfl (mc rfl mn))) (c_impl_comesFrom p1 p i _  (hS5.inn0 [] rfl) hc2)) ?_
        rintro _ w_4 ⟨rfl, hd2⟩
        have hS6 := hS5.out00 hd2
        refine sq 24 rfl rfl (Y_move (v := vi j) rfl rfl) ?_
        refine sq 25 rfl rfl (Y_eq (k := .i64) (a := r_4) (b := j) rfl rfl rfl) ?_
        refine rw_nil ?_
        refine cw_cond (b := (r_4 == j)) rfl (fun hb3 => ?_) (fun hb3 => ?_)
        · skip
          have hF7 := ct hF6 hb3
          refine cw_seq ?_
          refine cw_region ?_
          refine sq 26 rfl rfl (Y_fieldAddr (B := B) (i := 0) (s := 0) k_fd_75_0_0_3 k_sz_3_1 rfl rfl) ?_
          refine sq 27 rfl rfl (Y_load1 (B := B) (i := 0) (cs := [vi p.Kind, vi p.A, vi p.B]) (v := vi p.Kind) k_sc_3 rfl rfl (hS6.rf (i := 0) rfl) rfl) ?_
          refine sq 28 rfl rfl (Y_eq (k := .i64) (a := p.Kind) (b := 10) rfl rfl rfl) ?_
          refine sq 29 rfl rfl (Y_move (v := .bool (p.Kind == 10)) rfl rfl) ?_
          refine sgq 30 (B := (p.Kind == 10)) (v := vi p1) rfl rfl (wt_t (gd_of (t := 29) (by kernel_rfl) rfl)) (fun hg => (Y_load1 (B := B1) (i := 0) (cs := [vi p1]) (v := vi p1) k_sc_3 rfl rfl (hS6.rf (i := 1) rfl) rfl)) ?_
          refine sgq 31 (B := (p.Kind == 10)) (v := vi i) rfl rfl (wt_t (gd_of (t := 29) (by kernel_rfl) rfl)) (fun hg1 => (Y_move (v := vi i) rfl rfl)) ?_
          refine sgq 32 (B := (p.Kind == 10)) (v := pt B 1) rfl rfl (wt_t (gd_of (t := 29) (by kernel_rfl) rfl)) (fun hg2 => (Y_fieldAddr (B := B) (i := 0) (s := 0) k_fd_75_1_1_3 k_sz_3_1 rfl rfl)) ?_
          refine sgq 33 (B := (p.Kind == 10)) (v := vi p.A) rfl rfl (wt_t (gd_of (t := 29) (by kernel_rfl) rfl)) (fun hg3 => (Y_load1 (B := B) (i := 1) (cs := [vi p.Kind, vi p.A, vi p.B]) (v := vi p.A) k_sc_3 rfl (gv_of (B := (p.Kind == 10)) (v := pt B 1) hg3) (hS6.rf (i := 0) rfl) rfl)) ?_
          obtain ⟨r_5, hc3, hF7⟩ := bind_inv hF7
          refine sgc 34 (B := (p.Kind == 10)) (v := vi r_5) (F := hS6.fn) rfl rfl (wt_t (gd_of (t := 29) (by kernel_rfl) rfl)) hS6 (fun hg4 => (Yc_func (g := 71) (vs := [vi p1, vi i, vi p.A]) k_call_71 rfl (mc (gv_of (B := (p.Kind == 10)) (v := vi p1) hg4) (mc (gv_of (B := (p.Kind == 10)) (v := vi i) hg4) (mc (gv_of (B := (p.Kind == 10)) (v := vi p.A) hg4) mn))) (CV.mono (c_impl_bitOf p1 i p.A _  (hS6.inn0 [] rfl) (gb_inv hc3 hg4)) (by rintro _ _ ⟨rfl, h⟩; exact ⟨rfl, hS6.out00 h⟩)))) ?_
          rintro w_5 hS7
          have hS7 : ST _ _ w_5 _ _ := hS7
          refine sgq 35 (B := (p.Kind == 10)) (v := .bool (r_5 == 1)) rfl rfl (wt_t (gd_of (t := 29) (by kernel_rfl) rfl)) (fun hg5 => (Y_eq (k := .i64) (a := r_5) (b := 1) rfl (gv_of (B := (p.Kind == 10)) (v := vi r_5) hg5) rfl)) ?_
          refine sq 36 rfl rfl (Y_and (b := (p.Kind == 10)) (z := (r_5 == 1)) rfl rfl rfl rfl) ?_
          refine sq 37 rfl rfl (Y_move (v := .bool ((p.Kind == 10) && (r_5 == 1))) rfl rfl) ?_
          refine sgq 38 (B := ((p.Kind == 10) && (r_5 == 1))) (v := vi p1) rfl rfl (wt_t (gd_of (t := 37) (by kernel_rfl) rfl)) (fun hg6 => (Y_load1 (B := B1) (i := 0) (cs := [vi p1]) (v := vi p1) k_sc_3 rfl rfl (hS7.rf (i := 1) rfl) rfl)) ?_
          refine sgq 39 (B := ((p.Kind == 10) && (r_5 == 1))) (v := vi i) rfl rfl (wt_t (gd_of (t := 37) (by kernel_rfl) rfl)) (fun hg7 => (Y_move (v := vi i) rfl rfl)) ?_
          refine sgq 40 (B := ((p.Kind == 10) && (r_5 == 1))) (v := pt B 2) rfl rfl (wt_t (gd_of (t := 37) (by kernel_rfl) rfl)) (fun hg8 => (Y_fieldAddr (B := B) (i := 0) (s := 0) k_fd_75_2_2_3 k_sz_3_1 rfl rfl)) ?_
          refine sgq 41 (B := ((p.Kind == 10) && (r_5 == 1))) (v := vi p.B) rfl rfl (wt_t (gd_of (t := 37) (by kernel_rfl) rfl)) (fun hg9 => (Y_load1 (B := B) (i := 2) (cs := [vi p.Kind, vi p.A, vi p.B]) (v := vi p.B) k_sc_3 rfl (gv_of (B := ((p.Kind == 10) && (r_5 == 1))) (v := pt B 2) hg9) (hS7.rf (i := 0) rfl) rfl)) ?_
          obtain ⟨r_6, hc4, hF7⟩ := bind_inv hF7
          refine sgc 42 (B := ((p.Kind == 10) && (r_5 == 1))) (v := vi r_6) (F := hS7.fn) rfl rfl (wt_t (gd_of (t := 37) (by kernel_rfl) rfl)) hS7 (fun hg10 => (Yc_func (g := 71) (vs := [vi p1, vi i, vi p.B]) k_call_71 rfl (mc (gv_of (B := ((p.Kind == 10) && (r_5 == 1))) (v := vi p1) hg10) (mc (gv_of (B := ((p.Kind == 10) && (r_5 == 1))) (v := vi i) hg10) (mc (gv_of (B := ((p.Kind == 10) && (r_5 == 1))) (v := vi p.B) hg10) mn))) (CV.mono (c_impl_bitOf p1 i p.B _  (hS7.inn0 [] rfl) (gb_inv hc4 hg10)) (by rintro _ _ ⟨rfl, h⟩; exact ⟨rfl, hS7.out00 h⟩)))) ?_
          rintro w_6 hS8
          have hS8 : ST _ _ w_6 _ _ := hS8
          refine sgq 43 (B := ((p.Kind == 10) && (r_5 == 1))) (v := .bool (r_6 == 1)) rfl rfl (wt_t (gd_of (t := 37) (by kernel_rfl) rfl)) (fun hg11 => (Y_eq (k := .i64) (a := r_6) (b := 1) rfl (gv_of (B := ((p.Kind == 10) && (r_5 == 1))) (v := vi r_6) hg11) rfl)) ?_
          refine sq 44 rfl rfl (Y_and (b := ((p.Kind == 10) && (r_5 == 1))) (z := (r_6 == 1)) rfl rfl rfl rfl) ?_
          obtain ⟨r_7, hc5, hF7⟩ := bind_inv hF7
          refine sc 45 rfl rfl (Yc_func (g := 70) (vs := [.bool (((p.Kind == 10) && (r_5 == 1)) && (r_6 == 1))]) k_call_70 rfl (mc rfl mn) (c_impl_small (((p.Kind == 10) && (r_5 == 1)) && (r_6 == 1)) _  (hS8.inn0 [] rfl) hc5)) ?_
          rintro _ w_7 ⟨rfl, hd3⟩
          have hS9 := hS8.out00 hd3
          refine sq 46 rfl rfl (Y_mul (k := .i64) (a := 4) (b := r_7) rfl rfl rfl) ?_
          obtain ⟨r_8, hc6, hF7⟩ := bind_inv hF7
          refine sc 47 rfl rfl (Yc_func (g := 67) (vs := [vi (i64.wrap (4 * r_7))]) k_call_67 rfl (mc rfl mn) (c_impl_phase (i64.wrap (4 * r_7)) _  (hS9.inn0 [] rfl) hc6)) ?_
          rintro _ w_8 ⟨rfl, hd4⟩
          have hS10 := hS9.out00 hd4
          refine ss0 rfl rfl (Ys_store (i := 0) (s := 5) (B := some ⟨b, 0, none⟩) (T' := 49) (v := .agg #[vi r_8.Num.A, vi r_8.Num.B, vi r_8.Num.C, vi r_8.Num.D, vi r_8.Exp]) (vs := [vi r_8.Num.A, vi r_8.Num.B, vi r_8.Num.C, vi r_8.Num.D, vi r_8.Exp]) (k := 0) (cs' := [vi r_8.Num.A, vi r_8.Num.B, vi r_8.Num.C, vi r_8.Num.D, vi r_8.Exp]) hS10 k_sz_49_5 rfl rfl rfl rfl rfl rfl rfl (Nat.le_of_ble_eq_true rfl) rfl rfl) ?_
          rintro _ w_9 ⟨rfl, hS11⟩
          refine sq 7 rfl rfl (Y_assign (v := .bool true) rfl rfl) ?_
          refine rw_nil ?_
          refine cw_ret ?_
          obtain rfl := some_inj hF7
          obtain ⟨rfl, rfl⟩ := pr2 (some_inj hF1)
          exact ret2 Tryd.results66 (v1 := .agg #[vi r_8.Num.A, vi r_8.Num.B, vi r_8.Num.C, vi r_8.Num.D, vi r_8.Exp]) (resAt_cellA (B := some ⟨b, 0, none⟩) (i := 0) (cs := [vi r_8.Num.A, vi r_8.Num.B, vi r_8.Num.C, vi r_8.Num.D, vi r_8.Exp]) (vs := [vi r_8.Num.A, vi r_8.Num.B, vi r_8.Num.C, vi r_8.Num.D, vi r_8.Exp]) rfl k_ag_49 k_sz_49_5 (hS11.cf (i := 0) rfl) rfl rfl) (v2 := .bool true) (resAt_tmp rfl) ⟨rfl, (ST.subR (R' := []) (hS11.sel [] rfl rfl) (fun _ h => by cases h))⟩
        · skip
          have hF8 := cf' hF6 hb3
          refine cw_skip ?_
          exact ⟨(some_inj hF8), (FF.cons rfl FF.nil), (hS6.sel [0] rfl rfl)⟩
      · skip
        have hF9 := cf' hF5 hb2
        refine cw_seq ?_
        refine cw_region ?_
        refine sq 49 rfl rfl (Y_move (v := vi i) rfl rfl) ?_
        refine sq 50 rfl rfl (Y_move (v := vi j) rfl rfl) ?_
        refine sq 51 rfl rfl (Y_eq (k := .i64) (a := i) (b := j) rfl rfl rfl) ?_
        refine sq 52 rfl rfl (Y_move (v := .bool (i == j)) rfl rfl) ?_
        refine sgq 53 (B := (!(i == j))) (v := vi p1) rfl rfl (wt_f (gd_of (t := 52) (by kernel_rfl) rfl)) (fun hg12 => (Y_load1 (B := B1) (i := 0) (cs := [vi p1]) (v := vi p1) k_sc_3 rfl rfl (hS5.rf (i := 1) rfl) rfl)) ?_
        refine sgq 54 (B := (!(i == j))) (v := vi i) rfl rfl (wt_f (gd_of (t := 52) (by kernel_rfl) rfl)) (fun hg13 => (Y_move (v := vi i) rfl rfl)) ?_
        refine sgq 55 (B := (!(i == j))) (v := pt B 1) rfl rfl (wt_f (gd_of (t := 52) (by kernel_rfl) rfl)) (fun hg14 => (Y_fieldAddr (B := B) (i := 0) (s := 0) k_fd_75_1_1_3 k_sz_3_1 rfl rfl)) ?_
        refine sgq 56 (B := (!(i == j))) (v := vi p.A) rfl rfl (wt_f (gd_of (t := 52) (by kernel_rfl) rfl)) (fun hg15 => (Y_load1 (B := B) (i := 1) (cs := [vi p.Kind, vi p.A, vi p.B]) (v := vi p.A) k_sc_3 rfl (gv_of (B := (!(i == j))) (v := pt B 1) hg15) (hS5.rf (i := 0) rfl) rfl)) ?_
        obtain ⟨r_9, hc7, hF9⟩ := bind_inv hF9
        refine sgc 57 (B := (!(i == j))) (v := vi r_9) (F := hS5.fn) rfl rfl (wt_f (gd_of (t := 52) (by kernel_rfl) rfl)) hS5 (fun hg16 => (Yc_func (g := 72) (vs := [vi p1, vi i, vi p.A]) k_call_72 rfl (mc (gv_of (B := (!(i == j))) (v := vi p1) hg16) (mc (gv_of (B := (!(i == j))) (v := vi i) hg16) (mc (gv_of (B := (!(i == j))) (v := vi p.A) hg16) mn))) (CV.mono (c_impl_flipped p1 i p.A _  (hS5.inn0 [] rfl) (gb_inv hc7 hg16)) (by rintro _ _ ⟨rfl, h⟩; exact ⟨rfl, hS5.out00 h⟩)))) ?_
        rintro w_10 hS12
        have hS12 : ST _ _ w_10 _ _ := hS12
        refine sgq 58 (B := (!(i == j))) (v := vi j) rfl rfl (wt_f (gd_of (t := 52) (by kernel_rfl) rfl)) (fun hg17 => (Y_move (v := vi j) rfl rfl)) ?_
        refine sgq 59 (B := (!(i == j))) (v := .bool (r_9 == j)) rfl rfl (wt_f (gd_of (t := 52) (by kernel_rfl) rfl)) (fun hg18 => (Y_eq (k := .i64) (a := r_9) (b := j) rfl (gv_of (B := (!(i == j))) (v := vi r_9) hg18) (gv_of (B := (!(i == j))) (v := vi j) hg18))) ?_
        refine sq 60 rfl rfl (Y_or (b := (i == j)) (z := (r_9 == j)) rfl rfl rfl rfl) ?_
        refine sq 48 rfl rfl (Y_assign (v := .bool ((i == j) || (r_9 == j))) rfl rfl) ?_
        refine rw_nil ?_
        refine cw_cond (b := ((i == j) || (r_9 == j))) rfl (fun hb4 => ?_) (fun hb4 => ?_)
        · skip
          have hF10 := ct hF9 hb4
          refine cw_seq ?_
          obtain ⟨r_10, hc8, hF10⟩ := bind_inv hF10
          obtain ⟨r_11, hc9, hF10⟩ := bind_inv hF10
          obtain ⟨r_12, hc10, hF10⟩ := bind_inv hF10
          refine ra_start (ST.sel hS12 [] rfl rfl).fn (by kernel_rfl) ?_
          have hS16 := hS12.drew
          refine ra_q 0 61 (v := pt B 0) rfl rfl rfl (by kernel_rfl) (by kernel_rfl) (by kernel_rfl) (ST.sel hS16 [] rfl rfl) (fun w' hw' => (Y_fieldAddr (B := B) (i := 0) (s := 0) k_fd_75_0_0_3 k_sz_3_1 rfl rfl)) ?_
          refine ra_q 1 62 (v := vi p.Kind) rfl rfl rfl (by kernel_rfl) (by kernel_rfl) (by kernel_rfl) (ST.sel hS16 [] rfl rfl) (fun w' hw' => (Y_load1 (B := B) (i := 0) (cs := [vi p.Kind, vi p.A, vi p.B]) (v := vi p.Kind) k_sc_3 rfl rfl (ST.rf hw' (i := 0) rfl) rfl)) ?_
          refine ra_q 2 63 (v := vi p1) rfl rfl rfl (by kernel_rfl) (by kernel_rfl) (by kernel_rfl) (ST.sel hS16 [] rfl rfl) (fun w' hw' => (Y_load1 (B := B1) (i := 0) (cs := [vi p1]) (v := vi p1) k_sc_3 rfl rfl (ST.rf hw' (i := 1) rfl) rfl)) ?_
          refine ra_q 3 64 (v := vi i) rfl rfl rfl (by kernel_rfl) (by kernel_rfl) (by kernel_rfl) (ST.sel hS16 [] rfl rfl) (fun w' hw' => (Y_move (v := vi i) rfl rfl)) ?_
          refine ra_q 4 65 (v := pt B 1) rfl rfl rfl (by kernel_rfl) (by kernel_rfl) (by kernel_rfl) (ST.sel hS16 [] rfl rfl) (fun w' hw' => (Y_fieldAddr (B := B) (i := 0) (s := 0) k_fd_75_1_1_3 k_sz_3_1 rfl rfl)) ?_
          refine ra_q 5 66 (v := vi p.A) rfl rfl rfl (by kernel_rfl) (by kernel_rfl) (by kernel_rfl) (ST.sel hS16 [] rfl rfl) (fun w' hw' => (Y_load1 (B := B) (i := 1) (cs := [vi p.Kind, vi p.A, vi p.B]) (v := vi p.A) k_sc_3 rfl rfl (ST.rf hw' (i := 0) rfl) rfl)) ?_
          refine ra_q 7 68 (v := vi p1) rfl rfl rfl (by kernel_rfl) (by kernel_rfl) (by kernel_rfl) (ST.sel hS16 [] rfl rfl) (fun w' hw' => (Y_load1 (B := B1) (i := 0) (cs := [vi p1]) (v := vi p1) k_sc_3 rfl rfl (ST.rf hw' (i := 1) rfl) rfl)) ?_
          refine ra_q 8 69 (v := vi j) rfl rfl rfl (by kernel_rfl) (by kernel_rfl) (by kernel_rfl) (ST.sel hS16 [] rfl rfl) (fun w' hw' => (Y_move (v := vi j) rfl rfl)) ?_
          refine ra_q 9 70 (v := pt B 1) rfl rfl rfl (by kernel_rfl) (by kernel_rfl) (by kernel_rfl) (ST.sel hS16 [] rfl rfl) (fun w' hw' => (Y_fieldAddr (B := B) (i := 0) (s := 0) k_fd_75_1_1_3 k_sz_3_1 rfl rfl)) ?_
          refine ra_q 10 71 (v := vi p.A) rfl rfl rfl (by kernel_rfl) (by kernel_rfl) (by kernel_rfl) (ST.sel hS16 [] rfl rfl) (fun w' hw' => (Y_load1 (B := B) (i := 1) (cs := [vi p.Kind, vi p.A, vi p.B]) (v := vi p.A) k_sc_3 rfl rfl (ST.rf hw' (i := 0) rfl) rfl)) ?_
          refine ra_all (rs := [6]) (by kernel_rfl) rfl ?_
          refine ra_c 67 (i := 6) rfl rfl rfl (Yc_func (g := 71) (vs := [vi p1, vi i, vi p.A]) k_call_71 rfl (mc rfl (mc rfl (mc rfl mn))) (c_impl_bitOf p1 i p.A _  (hS16.inn0 [] rfl) hc8)) ?_ ?_
          · rintro _ w_11 ⟨rfl, hd5⟩
            have hS17 := hS16.out00 hd5
            refine ⟨(ST.sel hS17 [] rfl rfl), ?_⟩
            refine ra_all (rs := [11]) (by kernel_rfl) rfl ?_
            refine ra_c 72 (i := 11) rfl rfl rfl (Yc_func (g := 71) (vs := [vi p1, vi j, vi p.A]) k_call_71 rfl (mc rfl (mc rfl (mc rfl mn))) (c_impl_bitOf p1 j p.A _  (hS17.inn0 [] rfl) hc9)) ?_ ?_
            · rintro _ w_12 ⟨rfl, hd6⟩
              have hS18 := hS17.out00 hd6
              refine ⟨(ST.sel hS18 [] rfl rfl), ?_⟩
              refine ra_all (rs := [12]) (by kernel_rfl) rfl ?_
              refine ra_c 73 (i := 12) rfl rfl rfl (Yc_func (g := 73) (vs := [vi p.Kind, vi r_10, vi r_11]) k_call_73 rfl (mc rfl (mc rfl (mc rfl mn))) (c_impl_entry p.Kind r_10 r_11 _  (hS18.inn0 [] rfl) hc10)) ?_ ?_
              · rintro _ w_13 ⟨rfl, hd7⟩
                have hS19 := hS18.out00 hd7
                refine ⟨(ST.sel hS19 [] rfl rfl), ?_⟩
                refine ra_all (rs := [13]) (by kernel_rfl) rfl ?_
                refine ra_s0 (i := 13) rfl rfl rfl (Ys_store (i := 0) (s := 5) (B := some ⟨b, 0, none⟩) (T' := 49) (v := .agg #[vi r_12.Num.A, vi r_12.Num.B, vi r_12.Num.C, vi r_12.Num.D, vi r_12.Exp]) (vs := [vi r_12.Num.A, vi r_12.Num.B, vi r_12.Num.C, vi r_12.Num.D, vi r_12.Exp]) (k := 0) (cs' := [vi r_12.Num.A, vi r_12.Num.B, vi r_12.Num.C, vi r_12.Num.D, vi r_12.Exp]) hS19 k_sz_49_5 rfl rfl rfl rfl rfl rfl rfl (Nat.le_of_ble_eq_true rfl) rfl rfl) ?_ ?_
                · rintro _ w_14 ⟨rfl, hS20⟩
                  refine ⟨(ST.sel hS20 [] rfl rfl), ?_⟩
                  refine ra_q 14 7 (v := .bool true) rfl rfl rfl (by kernel_rfl) (by kernel_rfl) (by kernel_rfl) (ST.sel hS20 [] rfl rfl) (fun w' hw' => (Y_assign (v := .bool true) rfl rfl)) ?_
                  refine ra_done (by kernel_rfl) ?_
                  refine cw_ret ?_
                  obtain rfl := some_inj hF10
                  obtain ⟨rfl, rfl⟩ := pr2 (some_inj hF1)
                  exact ret2 Tryd.results66 (v1 := .agg #[vi r_12.Num.A, vi r_12.Num.B, vi r_12.Num.C, vi r_12.Num.D, vi r_12.Exp]) (resAt_cellA (B := some ⟨b, 0, none⟩) (i := 0) (cs := [vi r_12.Num.A, vi r_12.Num.B, vi r_12.Num.C, vi r_12.Num.D, vi r_12.Exp]) (vs := [vi r_12.Num.A, vi r_12.Num.B, vi r_12.Num.C, vi r_12.Num.D, vi r_12.Exp]) rfl k_ag_49 k_sz_49_5 (hS20.cf (i := 0) rfl) rfl rfl) (v2 := .bool true) (resAt_tmp rfl) ⟨rfl, (ST.subR (R' := []) (hS20.sel [] rfl rfl) (fun _ h => by cases h))⟩
                exact allR_nil
              exact allR_nil
            exact allR_nil
          exact allR_nil
        · skip
          have hF11 := cf' hF9 hb4
          refine cw_skip ?_
          exact ⟨(some_inj hF11), (FF.cons rfl FF.nil), (hS12.sel [0] rfl rfl)⟩
  rintro f w ⟨rfl, hf, hS2⟩
  refine cw_seq ?_
  refine cw_region ?_
  refine sq 74 rfl rfl (Y_buildS (zs := [vi 0, vi 0, vi 0, vi 0, vi 0]) (vs := []) (cs := [vi 0, vi 0, vi 0, vi 0, vi 0]) k_pl_49 k_zero_49 rfl mpn rfl) ?_
  refine ss0 rfl rfl (Ys_store (i := 0) (s := 5) (B := some ⟨b, 0, none⟩) (T' := 49) (v := .agg #[vi 0, vi 0, vi 0, vi 0, vi 0]) (vs := [vi 0, vi 0, vi 0, vi 0, vi 0]) (k := 0) (cs' := [vi 0, vi 0, vi 0, vi 0, vi 0]) hS2 k_sz_49_5 rfl (hf.get 6 0 rfl) rfl rfl rfl rfl rfl (Nat.le_of_ble_eq_true rfl) rfl rfl) ?_
  rintro _ w_15 ⟨rfl, hS21⟩
  refine sq 7 rfl rfl (Y_assign (v := .bool true) rfl rfl) ?_
  refine rw_nil ?_
  refine cw_ret ?_
  obtain ⟨rfl, rfl⟩ := pr2 (some_inj hF1)
  exact ret2 Tryd.results66 (v1 := .agg #[vi 0, vi 0, vi 0, vi 0, vi 0]) (resAt_cellA (B := some ⟨b, 0, none⟩) (i := 0) (cs := [vi 0, vi 0, vi 0, vi 0, vi 0]) (vs := [vi 0, vi 0, vi 0, vi 0, vi 0]) (hf.get 6 0 rfl) k_ag_49 k_sz_49_5 (hS21.cf (i := 0) rfl) rfl rfl) (v2 := .bool true) (resAt_tmp rfl) ⟨rfl, (ST.subR (R' := []) (hS21.sel [] rfl rfl) (fun _ h => by cases h))⟩

theorem c_impl_GateMatrix (n : Int) (g : TGate)  (w0 : World)  (hS : ST w0 [] w0 [] []) {r_ : TMatrix} {r_1 : Bool} (hF : F_impl_GateMatrix n g = some (r_, r_1)) :
    CV Tryd.prog 41 #[vi n, .agg #[vi g.Kind, vi g.A, vi g.B]] w0 (fun v w' => ∃ (B : Option Addr) (c : Nat), v = .tuple #[.agg #[vi r_.Rows, vi r_.Cols, .slice B r_.Cells.length c], .bool r_1] ∧ ST w0 [] w' [⟨B, 49, (r_.Cells.flatMap enc_Dyadic), c * 5⟩] []) := by
  unfold F_impl_GateMatrix at hF
  refine cv_of_cw 19 Tryd.func41 rfl Tryd.ntmps41 rfl ?_
  refine cw_seq ?_
  refine cw_region ?_
  refine ss 2 rfl rfl (Ys_box (T := 3) (v := vi n) (cs := [vi n]) (m := 1) hS rfl rfl rfl rfl) ?_
  rintro _ w_ ⟨b, rfl, hS1⟩
  refine ss 3 rfl rfl (Ys_box (T := 75) (v := .agg #[vi g.Kind, vi g.A, vi g.B]) (cs := [vi g.Kind, vi g.A, vi g.B]) (m := 3) hS1 rfl rfl rfl rfl) ?_
  rintro _ w_1 ⟨b1, rfl, hS2⟩
  have hS2 : ST w0 [] _ [⟨some ⟨b, 0, none⟩, 3, [vi n], 1⟩, ⟨some ⟨b1, 0, none⟩, 75, [vi g.Kind, vi g.A, vi g.B], 3⟩] [] := hS2
  refine ss 4 rfl rfl (Ys_alloc (T := 32) (cs := [vi 0, vi 0, .slice none 0 0]) (m := 3) hS2 k_zero_32 rfl rfl rfl) ?_
  rintro _ w_2 ⟨b2, rfl, hS3⟩
  have hS3 : ST w0 [] _ [⟨some ⟨b, 0, none⟩, 3, [vi n], 1⟩, ⟨some ⟨b1, 0, none⟩, 75, [vi g.Kind, vi g.A, vi g.B], 3⟩, ⟨some ⟨b2, 0, none⟩, 32, [vi 0, vi 0, .slice none 0 0], 3⟩] [] := hS3
  refine sq 5 rfl rfl (Y_assign (v := .bool false) rfl rfl) ?_
  refine rw_nil ?_
  refine cw_seq ?_
  refine cw_seq ?_
  refine cw_region ?_
  refine sq 6 rfl rfl (Y_load1 (B := some ⟨b, 0, none⟩) (i := 0) (cs := [vi n]) (v := vi n) k_sc_3 rfl rfl (hS3.cf (i := 0) rfl) rfl) ?_
  refine sq 7 rfl rfl (Y_loadA (B := some ⟨b1, 0, none⟩) (i := 0) (cs := [vi g.Kind, vi g.A, vi g.B]) (vs := [vi g.Kind, vi g.A, vi g.B]) k_ag_75 k_sz_75_3 rfl rfl (hS3.cf (i := 1) rfl) rfl rfl) ?_
  obtain ⟨r_2, hc, hF⟩ := bind_inv hF
  refine sc 8 rfl rfl (Yc_func (g := 65) (vs := [vi n, .agg #[vi g.Kind, vi g.A, vi g.B]]) k_call_65 rfl (mc rfl (mc rfl mn)) (c_impl_IsValidGate n g _  (hS3.inn0 [] rfl) hc)) ?_
  rintro _ w_3 ⟨rfl, hd⟩
  have hS4 := hS3.out00 hd
  have hS4 : ST w0 [] _ [⟨some ⟨b, 0, none⟩, 3, [vi n], 1⟩, ⟨some ⟨b1, 0, none⟩, 75, [vi g.Kind, vi g.A, vi g.B], 3⟩, ⟨some ⟨b2, 0, none⟩, 32, [vi 0, vi 0, .slice none 0 0], 3⟩] [] := hS4
  refine sq 9 rfl rfl (Y_not (p := r_2) rfl rfl) ?_
  refine rw_nil ?_
  refine cw_cond (b := (!r_2)) rfl (fun hb => ?_) (fun hb => ?_)
  · skip
    have hF1 := ct hF hb
    refine cw_seq ?_
    refine cw_region ?_
    refine sq 10 rfl rfl (Y_buildS (zs := [vi 0, vi 0, .slice none 0 0]) (vs := []) (cs := [vi 0, vi 0, .slice none 0 0]) k_pl_32 k_zero_32 rfl mpn rfl) ?_
    refine ss0 rfl rfl (Ys_store (i := 2) (s := 3) (B := some ⟨b2, 0, none⟩) (T' := 32) (v := .agg #[vi 0, vi 0, .slice none 0 0]) (vs := [vi 0, vi 0, .slice none 0 0]) (k := 0) (cs' := [vi 0, vi 0, .slice none 0 0]) hS4 k_sz_32_3 rfl rfl rfl rfl rfl rfl rfl (Nat.le_of_ble_eq_true rfl) rfl rfl) ?_
    rintro _ w_4 ⟨rfl, hS5⟩
    have hS5 : ST w0 [] _ [⟨some ⟨b, 0, none⟩, 3, [vi n], 1⟩, ⟨some ⟨b1, 0, none⟩, 75, [vi g.Kind, vi g.A, vi g.B], 3⟩, ⟨some ⟨b2, 0, none⟩, 32, [vi 0, vi 0, .slice none 0 0], 3⟩] [] := hS5
    refine sq 5 rfl rfl (Y_assign (v := .bool false) rfl rfl) ?_
    refine rw_nil ?_
    refine cw_ret ?_
    have hS6 := hS5.addNil 49
    obtain ⟨rfl, rfl⟩ := pr2 (some_inj hF1)
    exact ret2 Tryd.results41 (v1 := .agg #[vi 0, vi 0, .slice none 0 0]) (resAt_cellA (B := some ⟨b2, 0, none⟩) (i := 0) (cs := [vi 0, vi 0, .slice none 0 0]) (vs := [vi 0, vi 0, .slice none 0 0]) rfl k_ag_32 k_sz_32_3 (hS6.cf (i := 2) rfl) rfl rfl) (v2 := .bool false) (resAt_tmp rfl) ⟨none, 0, rfl, (ST.subR (R' := []) (hS6.sel [3] rfl rfl) (fun _ h => by cases h))⟩
  · skip
    have hF2 := cf' hF hb
    refine cw_skip ?_
    refine cw_seq ?_
    obtain ⟨hsh, hF2⟩ := chk_inv hF2
    obtain ⟨hsh1, hF2⟩ := chk_inv hF2
    obtain ⟨⟨r_3, r_4⟩, hc1, hF2⟩ := bind_inv hF2
    refine ra_start (ST.sel hS4 [0, 1] rfl rfl).fn (by kernel_rfl) ?_
    have hS8 := hS4.drew
    refine ra_q 0 11 (v := vi n) rfl rfl rfl (by kernel_rfl) (by kernel_rfl) (by kernel_rfl) (ST.sel hS8 [0, 1] rfl rfl) (fun w' hw' => (Y_load1 (B := some ⟨b, 0, none⟩) (i := 0) (cs := [vi n]) (v := vi n) k_sc_3 rfl rfl (ST.cf hw' (i := 0) rfl) rfl)) ?_
    refine ra_q 1 12 (v := vi (shlK .i64 1 n)) rfl rfl rfl (by kernel_rfl) (by kernel_rfl) (by kernel_rfl) (ST.sel hS8 [0, 1] rfl rfl) (fun w' hw' => (Y_shl (k := .i64) (a := 1) (k' := .i64) (b := n) rfl rfl rfl hsh)) ?_
    refine ra_q 2 13 (v := vi n) rfl rfl rfl (by kernel_rfl) (by kernel_rfl) (by kernel_rfl) (ST.sel hS8 [0, 1] rfl rfl) (fun w' hw' => (Y_load1 (B := some ⟨b, 0, none⟩) (i := 0) (cs := [vi n]) (v := vi n) k_sc_3 rfl rfl (ST.cf hw' (i := 0) rfl) rfl)) ?_
    refine ra_q 3 14 (v := vi (shlK .i64 1 n)) rfl rfl rfl (by kernel_rfl) (by kernel_rfl) (by kernel_rfl) (ST.sel hS8 [0, 1] rfl rfl) (fun w' hw' => (Y_shl (k := .i64) (a := 1) (k' := .i64) (b := n) rfl rfl rfl hsh1)) ?_
    refine ra_q 4 15 (v := .func (.func 66) #[] #[pt (some ⟨b1, 0, none⟩) 0, pt (some ⟨b, 0, none⟩) 0]) rfl rfl rfl (by kernel_rfl) (by kernel_rfl) (by kernel_rfl) (ST.sel hS8 [0, 1] rfl rfl) (fun w' hw' => (Y_makeFunc (cs := [pt (some ⟨b1, 0, none⟩) 0, pt (some ⟨b, 0, none⟩) 0]) rfl rfl (mc rfl (mc rfl mn)))) ?_
    refine ra_all (rs := [5]) (by kernel_rfl) rfl ?_
    refine ra_c 16 (i := 5) rfl rfl rfl (Yc_func (g := 37) (vs := [vi (shlK .i64 1 n), vi (shlK .i64 1 n), .func (.func 66) #[] #[pt (some ⟨b1, 0, none⟩) 0, pt (some ⟨b, 0, none⟩) 0]]) k_call_37 rfl (mc rfl (mc rfl (mc rfl mn))) (c_impl_matrixOf (shlK .i64 1 n) (shlK .i64 1 n) (fun x_0 x_1 => F_impl_GateMatrix_1 x_0 x_1 g n) 66 (#[pt (some ⟨b1, 0, none⟩) 0, pt (some ⟨b, 0, none⟩) 0]) [⟨some ⟨b1, 0, none⟩, [vi g.Kind, vi g.A, vi g.B]⟩, ⟨some ⟨b, 0, none⟩, [vi n]⟩] _ k_call_66 (fun w hw x_0 x_1 y_0 y_1 h_ => c_impl_GateMatrix_1 x_0 x_1 g n (some ⟨b1, 0, none⟩) (some ⟨b, 0, none⟩) w  hw h_) (hS8.inn0 [(false, 1), (false, 0)] rfl) hc1)) ?_ ?_
    · rintro _ w_5 ⟨B1, c1, rfl, hd1⟩
      have hS9 := hS8.out0 hd1
      have hS9 : ST w0 [] _ [⟨some ⟨b, 0, none⟩, 3, [vi n], 1⟩, ⟨some ⟨b1, 0, none⟩, 75, [vi g.Kind, vi g.A, vi g.B], 3⟩, ⟨some ⟨b2, 0, none⟩, 32, [vi 0, vi 0, .slice none 0 0], 3⟩, ⟨B1, 49, (r_3.Cells.flatMap enc_Dyadic), c1 * 5⟩] [] := hS9
      refine ⟨(ST.sel hS9 [0, 1] rfl rfl), ?_⟩
      refine ra_q 6 17 (v := .agg #[vi r_3.Rows, vi r_3.Cols, .slice B1 r_3.Cells.length c1]) rfl rfl rfl (by kernel_rfl) (by kernel_rfl) (by kernel_rfl) (ST.sel hS9 [0, 1] rfl rfl) (fun w' hw' => (Y_extract (v := .agg #[vi r_3.Rows, vi r_3.Cols, .slice B1 r_3.Cells.length c1]) rfl rfl rfl)) ?_
      refine ra_q 7 18 (v := .bool r_4) rfl rfl rfl (by kernel_rfl) (by kernel_rfl) (by kernel_rfl) (ST.sel hS9 [0, 1] rfl rfl) (fun w' hw' => (Y_extract (v := .bool r_4) rfl rfl rfl)) ?_
      refine ra_all (rs := [8]) (by kernel_rfl) rfl ?_
      refine ra_s0 (i := 8) rfl rfl rfl (Ys_store (i := 2) (s := 3) (B := some ⟨b2, 0, none⟩) (T' := 32) (v := .agg #[vi r_3.Rows, vi r_3.Cols, .slice B1 r_3.Cells.length c1]) (vs := [vi r_3.Rows, vi r_3.Cols, .slice B1 r_3.Cells.length c1]) (k := 0) (cs' := [vi r_3.Rows, vi r_3.Cols, .slice B1 r_3.Cells.length c1]) hS9 k_sz_32_3 rfl rfl rfl rfl rfl rfl rfl (Nat.le_of_ble_eq_true rfl) rfl rfl) ?_ ?_
      · rintro _ w_6 ⟨rfl, hS10⟩
        have hS10 : ST w0 [] _ [⟨some ⟨b, 0, none⟩, 3, [vi n], 1⟩, ⟨some ⟨b1, 0, none⟩, 75, [vi g.Kind, vi g.A, vi g.B], 3⟩, ⟨some ⟨b2, 0, none⟩, 32, [vi r_3.Rows, vi r_3.Cols, .slice B1 r_3.Cells.length c1], 3⟩, ⟨B1, 49, (r_3.Cells.flatMap enc_Dyadic), c1 * 5⟩] [] := hS10
        refine ⟨(ST.sel hS10 [0, 1] rfl rfl), ?_⟩
        refine ra_q 9 5 (v := .bool r_4) rfl rfl rfl (by kernel_rfl) (by kernel_rfl) (by kernel_rfl) (ST.sel hS10 [0, 1] rfl rfl) (fun w' hw' => (Y_assign (v := .bool r_4) rfl rfl)) ?_
        refine ra_done (by kernel_rfl) ?_
        refine cw_ret ?_
        obtain ⟨rfl, rfl⟩ := pr2 (some_inj hF2)
        exact ret2 Tryd.results41 (v1 := .agg #[vi r_3.Rows, vi r_3.Cols, .slice B1 r_3.Cells.length c1]) (resAt_cellA (B := some ⟨b2, 0, none⟩) (i := 0) (cs := [vi r_3.Rows, vi r_3.Cols, .slice B1 r_3.Cells.length c1]) (vs := [vi r_3.Rows, vi r_3.Cols, .slice B1 r_3.Cells.length c1]) rfl k_ag_32 k_sz_32_3 (hS10.cf (i := 2) rfl) rfl rfl) (v2 := .bool r_4) (resAt_tmp rfl) ⟨B1, c1, rfl, (ST.subR (R' := []) (hS10.sel [3] rfl rfl) (fun _ h => by cases h))⟩
      exact allR_nil
    exact allR_nil

theorem c_impl_TraceOf (m : TMatrix) (B : Option Addr) (c n : Nat) (w0 : World) (hn : m.Cells.length = n) (hS : ST w0 [] w0 [] [⟨B, (m.Cells.flatMap enc_Dyadic)⟩]) {r_ : TDyadic} {r_1 : Bool} (hF : F_impl_TraceOf m = some (r_, r_1)) :
    CV Tryd.prog 43 #[.agg #[vi m.Rows, vi m.Cols, .slice B n c]] w0 (fun v w' => v = .tuple #[.agg #[vi r_.Num.A, vi r_.Num.B, vi r_.Num.C, vi r_.Num.D, vi r_.Exp], .bool r_1] ∧ ST w0 [] w' [] []) := by
  subst hn
  unfold F_impl_TraceOf at hF
  refine cv_of_cw 39 Tryd.func43 rfl Tryd.ntmps43 rfl ?_
  refine cw_seq ?_
  refine cw_region ?_
  refine ss 1 rfl rfl (Ys_box (T := 32) (v := .agg #[vi m.Rows, vi m.Cols, .slice B m.Cells.length c]) (cs := [vi m.Rows, vi m.Cols, .slice B m.Cells.length c]) (m := 3) hS rfl rfl rfl rfl) ?_
  rintro _ w_ ⟨b, rfl, hS1⟩
  refine ss 2 rfl rfl (Ys_alloc (T := 49) (cs := [vi 0, vi 0, vi 0, vi 0, vi 0]) (m := 5) hS1 k_zero_49 rfl rfl rfl) ?_
  rintro _ w_1 ⟨b1, rfl, hS2⟩
  have hS2 : ST w0 [] _ [⟨some ⟨b, 0, none⟩, 32, [vi m.Rows, vi m.Cols, .slice B m.Cells.length c], 3⟩, ⟨some ⟨b1, 0, none⟩, 49, [vi 0, vi 0, vi 0, vi 0, vi 0], 5⟩] [⟨B, (m.Cells.flatMap enc_Dyadic)⟩] := hS2
  refine sq 3 rfl rfl (Y_assign (v := .bool false) rfl rfl) ?_
  refine rw_nil ?_
  refine cw_seq ?_
  refine cw_seq ?_
  refine cw_region ?_
  refine sq 7 rfl rfl (Y_loadA (B := some ⟨b, 0, none⟩) (i := 0) (cs := [vi m.Rows, vi m.Cols, .slice B m.Cells.length c]) (vs := [vi m.Rows, vi m.Cols, .slice B m.Cells.length c]) k_ag_32 k_sz_32_3 rfl rfl (hS2.cf (i := 0) rfl) rfl rfl) ?_
  obtain ⟨r_2, hc, hF⟩ := bind_inv hF
  refine sc 8 rfl rfl (Yc_func (g := 35) (vs := [.agg #[vi m.Rows, vi m.Cols, .slice B m.Cells.length c]]) k_call_35 rfl (mc rfl mn) (c_impl_IsValidMatrix m B c m.Cells.length _ rfl (hS2.inn0 [(true, 0)] rfl) hc)) ?_
  rintro _ w_2 ⟨rfl, hd⟩
  have hS3 := hS2.out00 hd
  have hS3 : ST w0 [] _ [⟨some ⟨b, 0, none⟩, 32, [vi m.Rows, vi m.Cols, .slice B m.Cells.length c], 3⟩, ⟨some ⟨b1, 0, none⟩, 49, [vi 0, vi 0, vi 0, vi 0, vi 0], 5⟩] [⟨B, (m.Cells.flatMap enc_Dyadic)⟩] := hS3
  refine sq 9 rfl rfl (Y_not (p := r_2) rfl rfl) ?_
  refine sq 10 rfl rfl (Y_move (v := .bool (!r_2)) rfl rfl) ?_
  refine sgq 11 (B := (!(!r_2))) (v := pt (some ⟨b, 0, none⟩) 0) rfl rfl (wt_f (gd_of (t := 10) (by kernel_rfl) rfl)) (fun hg => (Y_fieldAddr (B := some ⟨b, 0, none⟩) (i := 0) (s := 0) k_fd_32_0_0_3 k_sz_3_1 rfl rfl)) ?_
  refine sgq 12 (B := (!(!r_2))) (v := vi m.Rows) rfl rfl (wt_f (gd_of (t := 10) (by kernel_rfl) rfl)) (fun hg1 => (Y_load1 (B := some ⟨b, 0, none⟩) (i := 0) (cs := [vi m.Rows, vi m.Cols, .slice B m.Cells.length c]) (v := vi m.Rows) k_sc_3 rfl (gv_of (B := (!(!r_2))) (v := pt (some ⟨b, 0, none⟩) 0) hg1) (hS3.cf (i := 0) rfl) rfl)) ?_
  refine sgq 13 (B := (!(!r_2))) (v := pt (some ⟨b, 0, none⟩) 1) rfl rfl (wt_f (gd_of (t := 10) (by kernel_rfl) rfl)) (fun hg2 => (Y_fieldAddr (B := some ⟨b, 0, none⟩) (i := 0) (s := 0) k_fd_32_1_1_3 k_sz_3_1 rfl rfl)) ?_
  refine sgq 14 (B := (!(!r_2))) (v := vi m.Cols) rfl rfl (wt_f (gd_of (t := 10) (by kernel_rfl) rfl)) (fun hg3 => (Y_load1 (B := some ⟨b, 0, none⟩) (i := 1) (cs := [vi m.Rows, vi m.Cols, .slice B m.Cells.length c]) (v := vi m.Cols) k_sc_3 rfl (gv_of (B := (!(!r_2))) (v := pt (some ⟨b, 0, none⟩) 1) hg3) (hS3.cf (i := 0) rfl) rfl)) ?_
  refine sgq 15 (B := (!(!r_2))) (v := .bool (m.Rows != m.Cols)) rfl rfl (wt_f (gd_of (t := 10) (by kernel_rfl) rfl)) (fun hg4 => (Y_ne (k := .i64) (a := m.Rows) (b := m.Cols) rfl (gv_of (B := (!(!r_2))) (v := vi m.Rows) hg4) (gv_of (B := (!(!r_2))) (v := vi m.Cols) hg4))) ?_
  refine sq 16 rfl rfl (Y_or (b := (!r_2)) (z := (m.Rows != m.Cols)) rfl rfl rfl rfl) ?_
  refine rw_nil ?_
  refine cw_cond (b := ((!r_2) || (m.Rows != m.Cols))) rfl (fun hb => ?_) (fun hb => ?_)
  · skip
    have hF1 := ct hF hb
    refine cw_seq ?_
    refine cw_region ?_
    refine sq 17 rfl rfl (Y_buildS (zs := [vi 0, vi 0, vi 0, vi 0, vi 0]) (vs := []) (cs := [vi 0, vi 0, vi 0, vi 0, vi 0]) k_pl_49 k_zero_49 rfl mpn rfl) ?_
    refine ss0 rfl rfl (Ys_store (i := 1) (s := 5) (B := some ⟨b1, 0, none⟩) (T' := 49) (v := .agg #[vi 0, vi 0, vi 0, vi 0, vi 0]) (vs := [vi 0, vi 0, vi 0, vi 0, vi 0]) (k := 0) (cs' := [vi 0, vi 0, vi 0, vi 0, vi 0]) hS3 k_sz_49_5 rfl rfl rfl rfl rfl rfl rfl (Nat.le_of_ble_eq_true rfl) rfl rfl) ?_
    rintro _ w_3 ⟨rfl, hS4⟩
    have hS4 : ST w0 [] _ [⟨some ⟨b, 0, none⟩, 32, [vi m.Rows, vi m.Cols, .slice B m.Cells.length c], 3⟩, ⟨some ⟨b1, 0, none⟩, 49, [vi 0, vi 0, vi 0, vi 0, vi 0], 5⟩] [⟨B, (m.Cells.flatMap enc_Dyadic)⟩] := hS4
    refine sq 3 rfl rfl (Y_assign (v := .bool false) rfl rfl) ?_
    refine rw_nil ?_
    refine cw_ret ?_
    obtain ⟨rfl, rfl⟩ := pr2 (some_inj hF1)
    exact ret2 Tryd.results43 (v1 := .agg #[vi 0, vi 0, vi 0, vi 0, vi 0]) (resAt_cellA (B := some ⟨b1, 0, none⟩) (i := 0) (cs := [vi 0, vi 0, vi 0, vi 0, vi 0]) (vs := [vi 0, vi 0, vi 0, vi 0, vi 0]) rfl k_ag_49 k_sz_49_5 (hS4.cf (i := 1) rfl) rfl rfl) (v2 := .bool false) (resAt_tmp rfl) ⟨rfl, (ST.subR (R' := []) (hS4.sel [] rfl rfl) (fun _ h => by cases h))⟩
  · skip
    have hF2 := cf' hF hb
    refine cw_skip ?_
    refine cw_seq ?_
    refine cw_region ?_
    refine sq 18 rfl rfl (Y_buildS (zs := [vi 0, vi 0, vi 0, vi 0, vi 0]) (vs := []) (cs := [vi 0, vi 0, vi 0, vi 0, vi 0]) k_pl_49 k_zero_49 rfl mpn rfl) ?_
    refine ss 4 rfl rfl (Ys_alloc (T := 49) (cs := [vi 0, vi 0, vi 0, vi 0, vi 0]) (m := 5) hS3 k_zero_49 rfl rfl rfl) ?_
    rintro _ w_4 ⟨b2, rfl, hS5⟩
    have hS5 : ST w0 [] _ [⟨some ⟨b, 0, none⟩, 32, [vi m.Rows, vi m.Cols, .slice B m.Cells.length c], 3⟩, ⟨some ⟨b1, 0, none⟩, 49, [vi 0, vi 0, vi 0, vi 0, vi 0], 5⟩, ⟨some ⟨b2, 0, none⟩, 49, [vi 0, vi 0, vi 0, vi 0, vi 0], 5⟩] [⟨B, (m.Cells.flatMap enc_Dyadic)⟩] := hS5
    refine ss0 rfl rfl (Ys_store (i := 2) (s := 5) (B := some ⟨b2, 0, none⟩) (T' := 49) (v := .agg #[vi 0, vi 0, vi 0, vi 0, vi 0]) (vs := [vi 0, vi 0, vi 0, vi 0, vi 0]) (k := 0) (cs' := [vi 0, vi 0, vi 0, vi 0, vi 0]) hS5 k_sz_49_5 rfl rfl rfl rfl rfl rfl rfl (Nat.le_of_ble_eq_true rfl) rfl rfl) ?_
    rintro _ w_5 ⟨rfl, hS6⟩
    have hS6 : ST w0 [] _ [⟨some ⟨b, 0, none⟩, 32, [vi m.Rows, vi m.Cols, .slice B m.Cells.length c], 3⟩, ⟨some ⟨b1, 0, none⟩, 49, [vi 0, vi 0, vi 0, vi 0, vi 0], 5⟩, ⟨some ⟨b2, 0, none⟩, 49, [vi 0, vi 0, vi 0, vi 0, vi 0], 5⟩] [⟨B, (m.Cells.flatMap enc_Dyadic)⟩] := hS6
    refine sq 5 rfl rfl (Y_assign (v := .bool true) rfl rfl) ?_
    refine rw_nil ?_
    refine cw_seq ?_
    refine cw_seq ?_
    refine cw_region ?_
    refine sq 6 rfl rfl (Y_assign (v := vi 0) rfl rfl) ?_
    refine rw_nil ?_
    obtain ⟨z, hz, hF3⟩ := bind_inv hF2
    refine cw_block ?_
    refine cw_loop (fun k f w => ∃ (A : Int) (B1 : Int) (C : Int) (D : Int) (Exp : Int) (ok : Bool) (i : Int), FF f [(1, pt (some ⟨b, 0, none⟩) 0), (2, pt (some ⟨b1, 0, none⟩) 0), (4, pt (some ⟨b2, 0, none⟩) 0), (5, .bool ok), (6, vi i)] ∧ ST w0 [] w [⟨some ⟨b, 0, none⟩, 32, [vi m.Rows, vi m.Cols, .slice B m.Cells.length c], 3⟩, ⟨some ⟨b1, 0, none⟩, 49, [vi 0, vi 0, vi 0, vi 0, vi 0], 5⟩, ⟨some ⟨b2, 0, none⟩, 49, [vi A, vi B1, vi C, vi D, vi Exp], 5⟩] [⟨B, (m.Cells.flatMap enc_Dyadic)⟩] ∧ whX (F_impl_TraceOf_l1 m) k (A, B1, C, D, Exp, ok, i) = some z) fuel ⟨0, 0, 0, 0, 0, true, 0, (FF.cons rfl (FF.cons rfl (FF.cons rfl (FF.cons rfl (FF.cons rfl FF.nil))))), (hS6.sel [0, 1, 2] rfl rfl), hz⟩ ?_
    rintro k_ f w ⟨A, B1, C, D, Exp, ok, i, hf, hS7, hL⟩
    obtain ⟨k_1, y, rfl, hb1, hL1⟩ := whX_go hL
    unfold F_impl_TraceOf_l1 at hb1
    refine cw_seq ?_
    refine cw_seq ?_
    refine cw_region ?_
    refine sq 19 rfl rfl (Y_move (v := vi i) rfl (hf.get 6 4 rfl)) ?_
    refine sq 20 rfl rfl (Y_fieldAddr (B := some ⟨b, 0, none⟩) (i := 0) (s := 0) k_fd_32_0_0_3 k_sz_3_1 rfl (hf.get 1 0 rfl)) ?_
    refine sq 21 rfl rfl (Y_load1 (B := some ⟨b, 0, none⟩) (i := 0) (cs := [vi m.Rows, vi m.Cols, .slice B m.Cells.length c]) (v := vi m.Rows) k_sc_3 rfl rfl (hS7.cf (i := 0) rfl) rfl) ?_
    refine sq 22 rfl rfl (Y_lt (k := .i64) (a := i) (b := m.Rows) rfl rfl rfl) ?_
    refine sq 23 rfl rfl (Y_move (v := .bool (decide (i < m.Rows))) rfl rfl) ?_
    refine sgq 24 (B := (decide (i < m.Rows))) (v := .bool ok) rfl rfl (wt_t (gd_of (t := 23) (by kernel_rfl) rfl)) (fun hg5 => (Y_move (v := .bool ok) rfl (hf.get 5 3 rfl))) ?_
    refine sq 25 rfl rfl (Y_and (b := (decide (i < m.Rows))) (z := ok) rfl rfl rfl rfl) ?_
    refine rw_nil ?_
    refine cw_cond (b := ((decide (i < m.Rows)) && ok)) rfl (fun hb2 => ?_) (fun hb2 => ?_)
    · skip
      have hF4 := ct hb1 hb2
      refine cw_skip ?_
      refine cw_seq ?_
      refine cw_block ?_
      obtain ⟨r_3, hc1, hF4⟩ := bind_inv hF4
      obtain ⟨⟨r_4, r_5⟩, hc2, hF4⟩ := bind_inv hF4
      refine cw_mid (fun f w => FF f [(1, pt (some ⟨b, 0, none⟩) 0), (2, pt (some ⟨b1, 0, none⟩) 0), (4, pt (some ⟨b2, 0, none⟩) 0), (5, .bool r_5), (6, vi i)] ∧ ST w0 [] w [⟨some ⟨b, 0, none⟩, 32, [vi m.Rows, vi m.Cols, .slice B m.Cells.length c], 3⟩, ⟨some ⟨b1, 0, none⟩, 49, [vi 0, vi 0, vi 0, vi 0, vi 0], 5⟩, ⟨some ⟨b2, 0, none⟩, 49, [vi r_4.Num.A, vi r_4.Num.B, vi r_4.Num.C, vi r_4.Num.D, vi r_4.Exp], 5⟩] [⟨B, (m.Cells.flatMap enc_Dyadic)⟩]) ?_ ?_
      · skip
        refine ra_start (ST.sel hS7 [0, 1] rfl rfl).fn (by kernel_rfl) ?_
        have hS11 := hS7.drew
        refine ra_q 1 30 (v := .agg #[vi m.Rows, vi m.Cols, .slice B m.Cells.length c]) rfl rfl rfl (by kernel_rfl) (by kernel_rfl) (by kernel_rfl) (ST.sel hS11 [0, 1] rfl rfl) (fun w' hw' => (Y_loadA (B := some ⟨b, 0, none⟩) (i := 0) (cs := [vi m.Rows, vi m.Cols, .slice B m.Cells.length c]) (vs := [vi m.Rows, vi m.Cols, .slice B m.Cells.length c]) k_ag_32 k_sz_32_3 rfl (hf.get 1 0 rfl) (ST.cf hw' (i := 0) rfl) rfl rfl)) ?_
        refine ra_q 2 31 (v := vi i) rfl rfl rfl (by kernel_rfl) (by kernel_rfl) (by kernel_rfl) (ST.sel hS11 [0, 1] rfl rfl) (fun w' hw' => (Y_move (v := vi i) rfl (hf.get 6 4 rfl))) ?_
        refine ra_q 3 32 (v := vi i) rfl rfl rfl (by kernel_rfl) (by kernel_rfl) (by kernel_rfl) (ST.sel hS11 [0, 1] rfl rfl) (fun w' hw' => (Y_move (v := vi i) rfl (hf.get 6 4 rfl))) ?_
        refine ra_all (rs := [0, 4]) (by kernel_rfl) rfl ?_
        refine ra_y 29 (i := 0) (v := .agg #[vi A, vi B1, vi C, vi D, vi Exp]) rfl rfl rfl (Y_loadA (B := some ⟨b2, 0, none⟩) (i := 0) (cs := [vi A, vi B1, vi C, vi D, vi Exp]) (vs := [vi A, vi B1, vi C, vi D, vi Exp]) k_ag_49 k_sz_49_5 rfl (hf.get 4 2 rfl) (hS11.cf (i := 2) rfl) rfl rfl) (ST.sel hS11 [0, 1] rfl rfl) ?_ ?_
        · skip
          refine ra_all (rs := [4]) (by kernel_rfl) rfl ?_
          refine ra_c 33 (i := 4) rfl rfl rfl (Yc_func (g := 40) (vs := [.agg #[vi m.Rows, vi m.Cols, .slice B m.Cells.length c], vi i, vi i]) k_call_40 rfl (mc rfl (mc rfl (mc rfl mn))) (c_impl_Matrix_at m i i B c m.Cells.length _ rfl (hS11.inn0 [(true, 0)] rfl) hc1)) ?_ ?_
          · rintro _ w_6 ⟨rfl, hd1⟩
            have hS12 := hS11.out00 hd1
            have hS12 : ST w0 [] _ [⟨some ⟨b, 0, none⟩, 32, [vi m.Rows, vi m.Cols, .slice B m.Cells.length c], 3⟩, ⟨some ⟨b1, 0, none⟩, 49, [vi 0, vi 0, vi 0, vi 0, vi 0], 5⟩, ⟨some ⟨b2, 0, none⟩, 49, [vi A, vi B1, vi C, vi D, vi Exp], 5⟩] [⟨B, (m.Cells.flatMap enc_Dyadic)⟩] := hS12
            refine ⟨(ST.sel hS12 [0, 1] rfl rfl), ?_⟩
            refine ra_all (rs := [5]) (by kernel_rfl) rfl ?_
            refine ra_c 34 (i := 5) rfl rfl rfl (Yc_func (g := 75) (vs := [.agg #[vi A, vi B1, vi C, vi D, vi Exp], .agg #[vi r_3.Num.A, vi r_3.Num.B, vi r_3.Num.C, vi r_3.Num.D, vi r_3.Exp]]) k_call_75 rfl (mc rfl (mc rfl mn)) (c_impl_AddDyadic (TDyadic.mk (TRing.mk A B1 C D) Exp) r_3 _  (hS12.inn0 [] rfl) hc2)) ?_ ?_
            · rintro _ w_7 ⟨rfl, hd2⟩
              have hS13 := hS12.out00 hd2
              have hS13 : ST w0 [] _ [⟨some ⟨b, 0, none⟩, 32, [vi m.Rows, vi m.Cols, .slice B m.Cells.length c], 3⟩, ⟨some ⟨b1, 0, none⟩, 49, [vi 0, vi 0, vi 0, vi 0, vi 0], 5⟩, ⟨some ⟨b2, 0, none⟩, 49, [vi A, vi B1, vi C, vi D, vi Exp], 5⟩] [⟨B, (m.Cells.flatMap enc_Dyadic)⟩] := hS13
              refine ⟨(ST.sel hS13 [0, 1] rfl rfl), ?_⟩
              refine ra_q 6 28 (v := .tuple #[.agg #[vi r_4.Num.A, vi r_4.Num.B, vi r_4.Num.C, vi r_4.Num.D, vi r_4.Exp], .bool r_5]) rfl rfl rfl (by kernel_rfl) (by kernel_rfl) (by kernel_rfl) (ST.sel hS13 [0, 1] rfl rfl) (fun w' hw' => (Y_move (v := .tuple #[.agg #[vi r_4.Num.A, vi r_4.Num.B, vi r_4.Num.C, vi r_4.Num.D, vi r_4.Exp], .bool r_5]) rfl rfl)) ?_
              refine ra_q 7 35 (v := .agg #[vi r_4.Num.A, vi r_4.Num.B, vi r_4.Num.C, vi r_4.Num.D, vi r_4.Exp]) rfl rfl rfl (by kernel_rfl) (by kernel_rfl) (by kernel_rfl) (ST.sel hS13 [0, 1] rfl rfl) (fun w' hw' => (Y_extract (v := .agg #[vi r_4.Num.A, vi r_4.Num.B, vi r_4.Num.C, vi r_4.Num.D, vi r_4.Exp]) rfl rfl rfl)) ?_
              refine ra_q 8 36 (v := .bool r_5) rfl rfl rfl (by kernel_rfl) (by kernel_rfl) (by kernel_rfl) (ST.sel hS13 [0, 1] rfl rfl) (fun w' hw' => (Y_extract (v := .bool r_5) rfl rfl rfl)) ?_
              refine ra_all (rs := [9]) (by kernel_rfl) rfl ?_
              refine ra_s0 (i := 9) rfl rfl rfl (Ys_store (i := 2) (s := 5) (B := some ⟨b2, 0, none⟩) (T' := 49) (v := .agg #[vi r_4.Num.A, vi r_4.Num.B, vi r_4.Num.C, vi r_4.Num.D, vi r_4.Exp]) (vs := [vi r_4.Num.A, vi r_4.Num.B, vi r_4.Num.C, vi r_4.Num.D, vi r_4.Exp]) (k := 0) (cs' := [vi r_4.Num.A, vi r_4.Num.B, vi r_4.Num.C, vi r_4.Num.D, vi r_4.Exp]) hS13 k_sz_49_5 rfl (hf.get 4 2 rfl) rfl rfl rfl rfl rfl (Nat.le_of_ble_eq_true rfl) rfl rfl) ?_ ?_
              · rintro _ w_8 ⟨rfl, hS14⟩
                have hS14 : ST w0 [] _ [⟨some ⟨b, 0, none⟩, 32, [vi m.Rows, vi m.Cols, .slice B m.Cells.length c], 3⟩, ⟨some ⟨b1, 0, none⟩, 49, [vi 0, vi 0, vi 0, vi 0, vi 0], 5⟩, ⟨some ⟨b2, 0, none⟩, 49, [vi r_4.Num.A, vi r_4.Num.B, vi r_4.Num.C, vi r_4.Num.D, vi r_4.Exp], 5⟩] [⟨B, (m.Cells.flatMap enc_Dyadic)⟩] := hS14
                refine ⟨(ST.sel hS14 [0, 1] rfl rfl), ?_⟩
                refine ra_q 10 5 (v := .bool r_5) rfl rfl rfl (by kernel_rfl) (by kernel_rfl) (by kernel_rfl) (ST.sel hS14 [0, 1] rfl rfl) (fun w' hw' => (Y_assign (v := .bool r_5) rfl rfl)) ?_
                refine ra_done (by kernel_rfl) ?_
                exact ⟨(FF.cons (hf.get 1 0 rfl) (FF.cons (hf.get 2 1 rfl) (FF.cons (hf.get 4 2 rfl) (FF.cons rfl (FF.cons (hf.get 6 4 rfl) FF.nil))))), (hS14.sel [0, 1, 2] rfl rfl)⟩
              exact allR_nil
            exact allR_nil
          exact allR_nil
        refine ra_c 33 (i := 4) rfl rfl rfl (Yc_func (g := 40) (vs := [.agg #[vi m.Rows, vi m.Cols, .slice B m.Cells.length c], vi i, vi i]) k_call_40 rfl (mc rfl (mc rfl (mc rfl mn))) (c_impl_Matrix_at m i i B c m.Cells.length _ rfl (hS11.inn0 [(true, 0)] rfl) hc1)) ?_ ?_
        · rintro _ w_9 ⟨rfl, hd3⟩
          have hS15 := hS11.out00 hd3
          have hS15 : ST w0 [] _ [⟨some ⟨b, 0, none⟩, 32, [vi m.Rows, vi m.Cols, .slice B m.Cells.length c], 3⟩, ⟨some ⟨b1, 0, none⟩, 49, [vi 0, vi 0, vi 0, vi 0, vi 0], 5⟩, ⟨some ⟨b2, 0, none⟩, 49, [vi A, vi B1, vi C, vi D, vi Exp], 5⟩] [⟨B, (m.Cells.flatMap enc_Dyadic)⟩] := hS15
          refine ⟨(ST.sel hS15 [0, 1] rfl rfl), ?_⟩
          refine ra_all (rs := [0]) (by kernel_rfl) rfl ?_
          refine ra_y 29 (i := 0) (v := .agg #[vi A, vi B1, vi C, vi D, vi Exp]) rfl rfl rfl (Y_loadA (B := some ⟨b2, 0, none⟩) (i := 0) (cs := [vi A, vi B1, vi C, vi D, vi Exp]) (vs := [vi A, vi B1, vi C, vi D, vi Exp]) k_ag_49 k_sz_49_5 rfl (hf.get 4 2 rfl) (hS15.cf (i := 2) rfl) rfl rfl) (ST.sel hS15 [0, 1] rfl rfl) ?_ ?_
          · skip
            refine ra_all (rs := [5]) (by kernel_rfl) rfl ?_
            refine ra_c 34 (i := 5) rfl rfl rfl (Yc_func (g := 75) (vs := [.agg #[vi A, vi B1, vi C, vi D, vi Exp], .agg #[vi r_3.Num.A, vi r_3.Num.B, vi r_3.Num.C, vi r_3.Num.D, vi r_3.Exp]]) k_call_75 rfl (mc rfl (mc rfl mn)) (c_impl_AddDyadic (TDyadic.mk (TRing.mk A B1 C D) Exp) r_3 _  (hS15.inn0 [] rfl) hc2)) ?_ ?_
            · rintro _ w_10 ⟨rfl, hd4⟩
              have hS16 := hS15.out00 hd4
              have hS16 : ST w0 [] _ [⟨some ⟨b, 0, none⟩, 32, [vi m.Rows, vi m.Cols, .slice B m.Cells.length c], 3⟩, ⟨some ⟨b1, 0, none⟩, 49, [vi 0, vi 0, vi 0, vi 0, vi 0], 5⟩, ⟨some ⟨b2, 0, none⟩, 49, [vi A, vi B1, vi C, vi D, vi Exp], 5⟩] [⟨B, (m.Cells.flatMap enc_Dyadic)⟩] := hS16
              refine ⟨(ST.sel hS16 [0, 1] rfl rfl), ?_⟩
              refine ra_q 6 28 (v := .tuple #[.agg #[vi r_4.Num.A, vi r_4.Num.B, vi r_4.Num.C, vi r_4.Num.D, vi r_4.Exp], .bool r_5]) rfl rfl rfl (by kernel_rfl) (by kernel_rfl) (by kernel_rfl) (ST.sel hS16 [0, 1] rfl rfl) (fun w' hw' => (Y_move (v := .tuple #[.agg #[vi r_4.Num.A, vi r_4.Num.B, vi r_4.Num.C, vi r_4.Num.D, vi r_4.Exp], .bool r_5]) rfl rfl)) ?_
              refine ra_q 7 35 (v := .agg #[vi r_4.Num.A, vi r_4.Num.B, vi r_4.Num.C, vi r_4.Num.D, vi r_4.Exp]) rfl rfl rfl (by kernel_rfl) (by kernel_rfl) (by kernel_rfl) (ST.sel hS16 [0, 1] rfl rfl) (fun w' hw' => (Y_extract (v := .agg #[vi r_4.Num.A, vi r_4.Num.B, vi r_4.Num.C, vi r_4.Num.D, vi r_4.Exp]) rfl rfl rfl)) ?_
              refine ra_q 8 36 (v := .bool r_5) rfl rfl rfl (by kernel_rfl) (by kernel_rfl) (by kernel_rfl) (ST.sel hS16 [0, 1] rfl rfl) (fun w' hw' => (Y_extract (v := .bool r_5) rfl rfl rfl)) ?_
              refine ra_all (rs := [9]) (by kernel_rfl) rfl ?_
              refine ra_s0 (i := 9) rfl rfl rfl (Ys_store (i := 2) (s := 5) (B := some ⟨b2, 0, none⟩) (T' := 49) (v := .agg #[vi r_4.Num.A, vi r_4.Num.B, vi r_4.Num.C, vi r_4.Num.D, vi r_4.Exp]) (vs := [vi r_4.Num.A, vi r_4.Num.B, vi r_4.Num.C, vi r_4.Num.D, vi r_4.Exp]) (k := 0) (cs' := [vi r_4.Num.A, vi r_4.Num.B, vi r_4.Num.C, vi r_4.Num.D, vi r_4.Exp]) hS16 k_sz_49_5 rfl (hf.get 4 2 rfl) rfl rfl rfl rfl rfl (Nat.le_of_ble_eq_true rfl) rfl rfl) ?_ ?_
              · rintro _ w_11 ⟨rfl, hS17⟩
                have hS17 : ST w0 [] _ [⟨some ⟨b, 0, none⟩, 32, [vi m.Rows, vi m.Cols, .slice B m.Cells.length c], 3⟩, ⟨some ⟨b1, 0, none⟩, 49, [vi 0, vi 0, vi 0, vi 0, vi 0], 5⟩, ⟨some ⟨b2, 0, none⟩, 49, [vi r_4.Num.A, vi r_4.Num.B, vi r_4.Num.C, vi r_4.Num.D, vi r_4.Exp], 5⟩] [⟨B, (m.Cells.flatMap enc_Dyadic)⟩] := hS17
                refine ⟨(ST.sel hS17 [0, 1] rfl rfl), ?_⟩
                refine ra_q 10 5 (v := .bool r_5) rfl rfl rfl (by kernel_rfl) (by kernel_rfl) (by kernel_rfl) (ST.sel hS17 [0, 1] rfl rfl) (fun w' hw' => (Y_assign (v := .bool r_5) rfl rfl)) ?_
                refine ra_done (by kernel_rfl) ?_
                exact ⟨(FF.cons (hf.get 1 0 rfl) (FF.cons (hf.get 2 1 rfl) (FF.cons (hf.get 4 2 rfl) (FF.cons rfl (FF.cons (hf.get 6 4 rfl) FF.nil))))), (hS17.sel [0, 1, 2] rfl rfl)⟩
              exact allR_nil
            exact allR_nil
          exact allR_nil
        exact allR_nil
      rintro f w ⟨hf1, hS10⟩
      refine cw_region ?_
      refine sq 26 rfl rfl (Y_move (v := vi i) rfl (hf1.get 6 4 rfl)) ?_
      refine sq 27 rfl rfl (Y_add (k := .i64) (a := i) (b := 1) rfl rfl rfl) ?_
      refine sq 6 rfl rfl (Y_assign (v := vi (i64.wrap (i + 1))) rfl rfl) ?_
      refine rw_nil ?_
      obtain rfl := some_inj hF4
      exact ⟨k_1, Nat.lt_succ_self _, r_4.Num.A, r_4.Num.B, r_4.Num.C, r_4.Num.D, r_4.Exp, r_5, (i64.wrap (i + 1)), (FF.cons (hf1.get 1 0 rfl) (FF.cons (hf1.get 2 1 rfl) (FF.cons (hf1.get 4 2 rfl) (FF.cons (hf1.get 5 3 rfl) (FF.cons rfl FF.nil))))), (hS10.sel [0, 1, 2] rfl rfl), hL1⟩
    · skip
      have hF5 := cf' hb1 hb2
      refine cw_exit rfl ?_
      obtain rfl := some_inj hF5
      obtain rfl := some_inj hL1
      refine cw_seq ?_
      refine cw_region ?_
      refine sq 37 rfl rfl (Y_loadA (B := some ⟨b2, 0, none⟩) (i := 0) (cs := [vi A, vi B1, vi C, vi D, vi Exp]) (vs := [vi A, vi B1, vi C, vi D, vi Exp]) k_ag_49 k_sz_49_5 rfl (hf.get 4 2 rfl) (hS7.cf (i := 2) rfl) rfl rfl) ?_
      refine sq 38 rfl rfl (Y_move (v := .bool ok) rfl (hf.get 5 3 rfl)) ?_
      refine ss0 rfl rfl (Ys_store (i := 1) (s := 5) (B := some ⟨b1, 0, none⟩) (T' := 49) (v := .agg #[vi A, vi B1, vi C, vi D, vi Exp]) (vs := [vi A, vi B1, vi C, vi D, vi Exp]) (k := 0) (cs' := [vi A, vi B1, vi C, vi D, vi Exp]) hS7 k_sz_49_5 rfl (hf.get 2 1 rfl) rfl rfl rfl rfl rfl (Nat.le_of_ble_eq_true rfl) rfl rfl) ?_
      rintro _ w_12 ⟨rfl, hS18⟩
      have hS18 : ST w0 [] _ [⟨some ⟨b, 0, none⟩, 32, [vi m.Rows, vi m.Cols, .slice B m.Cells.length c], 3⟩, ⟨some ⟨b1, 0, none⟩, 49, [vi A, vi B1, vi C, vi D, vi Exp], 5⟩, ⟨some ⟨b2, 0, none⟩, 49, [vi A, vi B1, vi C, vi D, vi Exp], 5⟩] [⟨B, (m.Cells.flatMap enc_Dyadic)⟩] := hS18
      refine sq 3 rfl rfl (Y_assign (v := .bool ok) rfl rfl) ?_
      refine rw_nil ?_
      refine cw_ret ?_
      obtain ⟨rfl, rfl⟩ := pr2 (some_inj hF3)
      exact ret2 Tryd.results43 (v1 := .agg #[vi A, vi B1, vi C, vi D, vi Exp]) (resAt_cellA (B := some ⟨b1, 0, none⟩) (i := 0) (cs := [vi A, vi B1, vi C, vi D, vi Exp]) (vs := [vi A, vi B1, vi C, vi D, vi Exp]) (hf.get 2 1 rfl) k_ag_49 k_sz_49_5 (hS18.cf (i := 1) rfl) rfl rfl) (v2 := .bool ok) (resAt_tmp rfl) ⟨rfl, (ST.subR (R' := []) (hS18.sel [] rfl rfl) (fun _ h => by cases h))⟩

theorem c_impl_blochCell (m : TMatrix) (bar : TMatrix) (i : Int) (j : Int) (B : Option Addr) (c n : Nat) (B1 : Option Addr) (c1 n1 : Nat) (w0 : World) (hn : m.Cells.length = n) (hn1 : bar.Cells.length = n1) (hS : ST w0 [] w0 [] [⟨B, (m.Cells.flatMap enc_Dyadic)⟩, ⟨B1, (bar.Cells.flatMap enc_Dyadic)⟩, ⟨(some ⟨0, 0, none⟩), [vi 1, vi 0, vi 0, vi 0, vi 2]⟩]) {r_ : TDyadic} {r_1 : Bool} (hF : F_impl_blochCell m bar i j = some (r_, r_1)) :
    CV Tryd.prog 22 #[.agg #[vi m.Rows, vi m.Cols, .slice B n c], .agg #[vi bar.Rows, vi bar.Cols, .slice B1 n1 c1], vi i, vi j] w0 (fun v w' => v = .tuple #[.agg #[vi r_.Num.A, vi r_.Num.B, vi r_.Num.C, vi r_.Num.D, vi r_.Exp], .bool r_1] ∧ ST w0 [] w' [] []) := by
  subst hn
  subst hn1
  unfold F_impl_blochCell at hF
  refine cv_of_cw 83 Tryd.func22 rfl Tryd.ntmps22 rfl ?_
  refine cw_seq ?_
  refine cw_region ?_
  refine ss 4 rfl rfl (Ys_box (T := 32) (v := .agg #[vi m.Rows, vi m.Cols, .slice B m.Cells.length c]) (cs := [vi m.Rows, vi m.Cols, .slice B m.Cells.length c]) (m := 3) hS rfl rfl rfl rfl) ?_
  rintro _ w_ ⟨b, rfl, hS1⟩
  refine ss 5 rfl rfl (Ys_box (T := 32) (v := .agg #[vi bar.Rows, vi bar.Cols, .slice B1 bar.Cells.length c1]) (cs := [vi bar.Rows, vi bar.Cols, .slice B1 bar.Cells.length c1]) (m := 3) hS1 rfl rfl rfl rfl) ?_
  rintro _ w_1 ⟨b1, rfl, hS2⟩
  have hS2 : ST w0 [] _ [⟨some ⟨b, 0, none⟩, 32, [vi m.Rows, vi m.Cols, .slice B m.Cells.length c], 3⟩, ⟨some ⟨b1, 0, none⟩, 32, [vi bar.Rows, vi bar.Cols, .slice B1 bar.Cells.length c1], 3⟩] [⟨B, (m.Cells.flatMap enc_Dyadic)⟩, ⟨B1, (bar.Cells.flatMap enc_Dyadic)⟩, ⟨(some ⟨0, 0, none⟩), [vi 1, vi 0, vi 0, vi 0, vi 2]⟩] := hS2
  refine ss 8 rfl rfl (Ys_alloc (T := 49) (cs := [vi 0, vi 0, vi 0, vi 0, vi 0]) (m := 5) hS2 k_zero_49 rfl rfl rfl) ?_
  rintro _ w_2 ⟨b2, rfl, hS3⟩
  have hS3 : ST w0 [] _ [⟨some ⟨b, 0, none⟩, 32, [vi m.Rows, vi m.Cols, .slice B m.Cells.length c], 3⟩, ⟨some ⟨b1, 0, none⟩, 32, [vi bar.Rows, vi bar.Cols, .slice B1 bar.Cells.length c1], 3⟩, ⟨some ⟨b2, 0, none⟩, 49, [vi 0, vi 0, vi 0, vi 0, vi 0], 5⟩] [⟨B, (m.Cells.flatMap enc_Dyadic)⟩, ⟨B1, (bar.Cells.flatMap enc_Dyadic)⟩, ⟨(some ⟨0, 0, none⟩), [vi 1, vi 0, vi 0, vi 0, vi 2]⟩] := hS3
  refine sq 9 rfl rfl (Y_assign (v := .bool false) rfl rfl) ?_
  refine rw_nil ?_
  refine cw_seq ?_
  refine cw_region ?_
  refine sq 23 rfl rfl (show Y _ _ _ _ _ (.agg (([2, 3, 4] : List Int).flatMap encI).toArray) from Y_buildA (zs := [vi 0, vi 0, vi 0]) (vs := [(0, vi 2), (1, vi 3), (2, vi 4)]) (cs := [vi 2, vi 3, vi 4]) k_ar_72_3_3 k_sz_3_1 k_zero_72 rfl (mpc rfl (mpc rfl (mpc rfl mpn))) (by kernel_rfl)) ?_
  refine ss 10 rfl rfl (Ys_alloc (T := 72) (cs := ((List.replicate 3 0).flatMap encI)) (m := 3) hS3 k_zero_72 rfl rfl rfl) ?_
  rintro _ w_3 ⟨b3, rfl, hS4⟩
  have hS4 : ST w0 [] _ [⟨some ⟨b, 0, none⟩, 32, [vi m.Rows, vi m.Cols, .slice B m.Cells.length c], 3⟩, ⟨some ⟨b1, 0, none⟩, 32, [vi bar.Rows, vi bar.Cols, .slice B1 bar.Cells.length c1], 3⟩, ⟨some ⟨b2, 0, none⟩, 49, [vi 0, vi 0, vi 0, vi 0, vi 0], 5⟩, ⟨some ⟨b3, 0, none⟩, 72, ((List.replicate 3 0).flatMap encI), 3⟩] [⟨B, (m.Cells.flatMap enc_Dyadic)⟩, ⟨B1, (bar.Cells.flatMap enc_Dyadic)⟩, ⟨(some ⟨0, 0, none⟩), [vi 1, vi 0, vi 0, vi 0, vi 2]⟩] := hS4
  refine ss0 rfl rfl (Ys_store (i := 3) (s := 3) (B := some ⟨b3, 0, none⟩) (T' := 72) (v := .agg (([2, 3, 4] : List Int).flatMap encI).toArray) (vs := (([2, 3, 4] : List Int).flatMap encI)) (k := 0) (cs' := (([2, 3, 4] : List Int).flatMap encI)) hS4 k_sz_72_3 rfl rfl rfl rfl (fm_lenn2 encI_len rfl rfl) (fm_one' encI_one _) rfl (fm_fit encI_len (List.length_replicate (n := 3)) rfl) (fm_spl encI_len (List.length_replicate (n := 3)) rfl) rfl) ?_
  rintro _ w_4 ⟨rfl, hS5⟩
  have hS5 : ST w0 [] _ [⟨some ⟨b, 0, none⟩, 32, [vi m.Rows, vi m.Cols, .slice B m.Cells.length c], 3⟩, ⟨some ⟨b1, 0, none⟩, 32, [vi bar.Rows, vi bar.Cols, .slice B1 bar.Cells.length c1], 3⟩, ⟨some ⟨b2, 0, none⟩, 49, [vi 0, vi 0, vi 0, vi 0, vi 0], 5⟩, ⟨some ⟨b3, 0, none⟩, 72, (([2, 3, 4] : List Int).flatMap encI), 3⟩] [⟨B, (m.Cells.flatMap enc_Dyadic)⟩, ⟨B1, (bar.Cells.flatMap enc_Dyadic)⟩, ⟨(some ⟨0, 0, none⟩), [vi 1, vi 0, vi 0, vi 0, vi 2]⟩] := hS5
  refine rw_nil ?_
  refine cw_seq ?_
  refine cw_region ?_
  refine sq 25 rfl rfl (Y_move (v := vi i) rfl rfl) ?_
  obtain ⟨x, hx, hF⟩ := bind_inv hF
  refine sq 26 rfl rfl (Y_indexArr0 (B := some ⟨b3, 0, none⟩) (k := .i64) (i := i) k_ar_72_3_3 k_sz_3_1 rfl rfl rfl (getI_nn hx) (getI_ltI hx rfl)) ?_
  refine sq 27 rfl rfl (Y_load1 (B := some ⟨b3, 0, none⟩) (i := i.toNat * 1) (cs := (([2, 3, 4] : List Int).flatMap encI)) (v := vi x) k_sc_3 rfl rfl (hS5.cf (i := 3) rfl) (gi_at0 encI_len hx rfl)) ?_
  refine sq 28 rfl rfl (Y_buildS (zs := [vi 0, vi 0, vi 0]) (vs := [(0, vi x)]) (cs := [vi x, vi 0, vi 0]) k_pl_75 k_zero_75 rfl (mpc rfl mpn) rfl) ?_
  obtain ⟨⟨r_2, r_3⟩, hc, hF⟩ := bind_inv hF
  refine sc 29 rfl rfl (Yc_func (g := 41) (vs := [vi 1, .agg #[vi x, vi 0, vi 0]]) k_call_41 rfl (mc rfl (mc rfl mn)) (c_impl_GateMatrix 1 (TGate.mk x 0 0) _  (hS5.inn0 [] rfl) hc)) ?_
  rintro _ w_5 ⟨B2, c2, rfl, hd⟩
  have hS6 := hS5.out0 hd
  have hS6 : ST w0 [] _ [⟨some ⟨b, 0, none⟩, 32, [vi m.Rows, vi m.Cols, .slice B m.Cells.length c], 3⟩, ⟨some ⟨b1, 0, none⟩, 32, [vi bar.Rows, vi bar.Cols, .slice B1 bar.Cells.length c1], 3⟩, ⟨some ⟨b2, 0, none⟩, 49, [vi 0, vi 0, vi 0, vi 0, vi 0], 5⟩, ⟨some ⟨b3, 0, none⟩, 72, (([2, 3, 4] : List Int).flatMap encI), 3⟩, ⟨B2, 49, (r_2.Cells.flatMap enc_Dyadic), c2 * 5⟩] [⟨B, (m.Cells.flatMap enc_Dyadic)⟩, ⟨B1, (bar.Cells.flatMap enc_Dyadic)⟩, ⟨(some ⟨0, 0, none⟩), [vi 1, vi 0, vi 0, vi 0, vi 2]⟩] := hS6
  refine sq 24 rfl rfl (Y_move (v := .tuple #[.agg #[vi r_2.Rows, vi r_2.Cols, .slice B2 r_2.Cells.length c2], .bool r_3]) rfl rfl) ?_
  refine sq 30 rfl rfl (Y_extract (v := .agg #[vi r_2.Rows, vi r_2.Cols, .slice B2 r_2.Cells.length c2]) rfl rfl rfl) ?_
  refine sq 31 rfl rfl (Y_extract (v := .bool r_3) rfl rfl rfl) ?_
  refine ss 11 rfl rfl (Ys_alloc (T := 32) (cs := [vi 0, vi 0, .slice none 0 0]) (m := 3) hS6 k_zero_32 rfl rfl rfl) ?_
  rintro _ w_6 ⟨b4, rfl, hS7⟩
  have hS7 : ST w0 [] _ [⟨some ⟨b, 0, none⟩, 32, [vi m.Rows, vi m.Cols, .slice B m.Cells.length c], 3⟩, ⟨some ⟨b1, 0, none⟩, 32, [vi bar.Rows, vi bar.Cols, .slice B1 bar.Cells.length c1], 3⟩, ⟨some ⟨b2, 0, none⟩, 49, [vi 0, vi 0, vi 0, vi 0, vi 0], 5⟩, ⟨some ⟨b3, 0, none⟩, 72, (([2, 3, 4] : List Int).flatMap encI), 3⟩, ⟨B2, 49, (r_2.Cells.flatMap enc_Dyadic), c2 * 5⟩, ⟨some ⟨b4, 0, none⟩, 32, [vi 0, vi 0, .slice none 0 0], 3⟩] [⟨B, (m.Cells.flatMap enc_Dyadic)⟩, ⟨B1, (bar.Cells.flatMap enc_Dyadic)⟩, ⟨(some ⟨0, 0, none⟩), [vi 1, vi 0, vi 0, vi 0, vi 2]⟩] := hS7
  refine ss0 rfl rfl (Ys_store (i := 5) (s := 3) (B := some ⟨b4, 0, none⟩) (T' := 32) (v := .agg #[vi r_2.Rows, vi r_2.Cols, .slice B2 r_2.Cells.length c2]) (vs := [vi r_2.Rows, vi r_2.Cols, .slice B2 r_2.Cells.length c2]) (k := 0) (cs' := [vi r_2.Rows, vi r_2.Cols, .slice B2 r_2.Cells.length c2]) hS7 k_sz_32_3 rfl rfl rfl rfl rfl rfl rfl (Nat.le_of_ble_eq_true rfl) rfl rfl) ?_
  rintro _ w_7 ⟨rfl, hS8⟩
  have hS8 : ST w0 [] _ [⟨some ⟨b, 0, none⟩, 32, [vi m.Rows, vi m.Cols, .slice B m.Cells.length c], 3⟩, ⟨some ⟨b1, 0, none⟩, 32, [vi bar.Rows, vi bar.Cols, .slice B1 bar.Cells.length c1], 3⟩, ⟨some ⟨b2, 0, none⟩, 49, [vi 0, vi 0, vi 0, vi 0, vi 0], 5⟩, ⟨some ⟨b3, 0, none⟩, 72, (([2, 3, 4] : List Int).flatMap encI), 3⟩, ⟨B2, 49, (r_2.Cells.flatMap enc_Dyadic), c2 * 5⟩, ⟨some ⟨b4, 0, none⟩, 32, [vi r_2.Rows, vi r_2.Cols, .slice B2 r_2.Cells.length c2], 3⟩] [⟨B, (m.Cells.flatMap enc_Dyadic)⟩, ⟨B1, (bar.Cells.flatMap enc_Dyadic)⟩, ⟨(some ⟨0, 0, none⟩), [vi 1, vi 0, vi 0, vi 0, vi 2]⟩] := hS8
  refine sq 12 rfl rfl (Y_assign (v := .bool r_3) rfl rfl) ?_
  refine rw_nil ?_
  refine cw_seq ?_
  refine cw_region ?_
  refine sq 33 rfl rfl (Y_move (v := vi j) rfl rfl) ?_
  obtain ⟨x1, hx1, hF⟩ := bind_inv hF
  refine sq 34 rfl rfl (Y_indexArr0 (B := some ⟨b3, 0, none⟩) (k := .i64) (i := j) k_ar_72_3_3 k_sz_3_1 rfl rfl rfl (getI_nn hx1) (getI_ltI hx1 rfl)) ?_
  refine sq 35 rfl rfl (Y_load1 (B := some ⟨b3, 0, none⟩) (i := j.toNat * 1) (cs := (([2, 3, 4] : List Int).flatMap encI)) (v := vi x1) k_sc_3 rfl rfl (hS8.cf (i := 3) rfl) (gi_at0 encI_len hx1 rfl)) ?_
  refine sq 36 rfl rfl (Y_buildS (zs := [vi 0, vi 0, vi 0]) (vs := [(0, vi x1)]) (cs := [vi x1, vi 0, vi 0]) k_pl_75 k_zero_75 rfl (mpc rfl mpn) rfl) ?_
  obtain ⟨⟨r_4, r_5⟩, hc1, hF⟩ := bind_inv hF
  refine sc 37 rfl rfl (Yc_func (g := 41) (vs := [vi 1, .agg #[vi x1, vi 0, vi 0]]) k_call_41 rfl (mc rfl (mc rfl mn)) (c_impl_GateMatrix 1 (TGate.mk x1 0 0) _  (hS8.inn0 [] rfl) hc1)) ?_
  rintro _ w_8 ⟨B3, c3, rfl, hd1⟩
  have hS9 := hS8.out0 hd1
  have hS9 : ST w0 [] _ [⟨some ⟨b, 0, none⟩, 32, [vi m.Rows, vi m.Cols, .slice B m.Cells.length c], 3⟩, ⟨some ⟨b1, 0, none⟩, 32, [vi bar.Rows, vi bar.Cols, .slice B1 bar.Cells.length c1], 3⟩, ⟨some ⟨b2, 0, none⟩, 49, [vi 0, vi 0, vi 0, vi 0, vi 0], 5⟩, ⟨some ⟨b3, 0, none⟩, 72, (([2, 3, 4] : List Int).flatMap encI), 3⟩, ⟨B2, 49, (r_2.Cells.flatMap enc_Dyadic), c2 * 5⟩, ⟨some ⟨b4, 0, none⟩, 32, [vi r_2.Rows, vi r_2.Cols, .slice B2 r_2.Cells.length c2], 3⟩, ⟨B3, 49, (r_4.Cells.flatMap enc_Dyadic), c3 * 5⟩] [⟨B, (m.Cells.flatMap enc_Dyadic)⟩, ⟨B1, (bar.Cells.flatMap enc_Dyadic)⟩, ⟨(some ⟨0, 0, none⟩), [vi 1, vi 0, vi 0, vi 0, vi 2]⟩] := hS9
  refine sq 32 rfl rfl (Y_move (v := .tuple #[.agg #[vi r_4.Rows, vi r_4.Cols, .slice B3 r_4.Cells.length c3], .bool r_5]) rfl rfl) ?_
  refine sq 38 rfl rfl (Y_extract (v := .agg #[vi r_4.Rows, vi r_4.Cols, .slice B3 r_4.Cells.length c3]) rfl rfl rfl) ?_
  refine sq 39 rfl rfl (Y_extract (v := .bool r_5) rfl rfl rfl) ?_
  refine ss 13 rfl rfl (Ys_alloc (T := 32) (cs := [vi 0, vi 0, .slice none 0 0]) (m := 3) hS9 k_zero_32 rfl rfl rfl) ?_
  rintro _ w_9 ⟨b5, rfl, hS10⟩
  have hS10 : ST w0 [] _ [⟨some ⟨b, 0, none⟩, 32, [vi m.Rows, vi m.Cols, .slice B m.Cells.length c], 3⟩, ⟨some ⟨b1, 0, none⟩, 32, [vi bar.Rows, vi bar.Cols, .slice B1 bar.Cells.length c1], 3⟩, ⟨some ⟨b2, 0, none⟩, 49, [vi 0, vi 0, vi 0, vi 0, vi 0], 5⟩, ⟨some ⟨b3, 0, none⟩, 72, (([2, 3, 4] : List Int).flatMap encI), 3⟩, ⟨B2, 49, (r_2.Cells.flatMap enc_Dyadic), c2 * 5⟩, ⟨some ⟨b4, 0, none⟩, 32, [vi r_2.Rows, vi r_2.Cols, .slice B2 r_2.Cells.length c2], 3⟩, ⟨B3, 49, (r_4.Cells.flatMap enc_Dyadic), c3 * 5⟩, ⟨some ⟨b5, 0, none⟩, 32, [vi 0, vi 0, .slice none 0 0], 3⟩] [⟨B, (m.Cells.flatMap enc_Dyadic)⟩, ⟨B1, (bar.Cells.flatMap enc_Dyadic)⟩, ⟨(some ⟨0, 0, none⟩), [vi 1, vi 0, vi 0, vi 0, vi 2]⟩] := hS10
  refine ss0 rfl rfl (Ys_store (i := 7) (s := 3) (B := some ⟨b5, 0, none⟩) (T' := 32) (v := .agg #[vi r_4.Rows, vi r_4.Cols, .slice B3 r_4.Cells.length c3]) (vs := [vi r_4.Rows, vi r_4.Cols, .slice B3 r_4.Cells.length c3]) (k := 0) (cs' := [vi r_4.Rows, vi r_4.Cols, .slice B3 r_4.Cells.length c3]) hS10 k_sz_32_3 rfl rfl rfl rfl rfl rfl rfl (Nat.le_of_ble_eq_true rfl) rfl rfl) ?_
  rintro _ w_10 ⟨rfl, hS11⟩
  have hS11 : ST w0 [] _ [⟨some ⟨b, 0, none⟩, 32, [vi m.Rows, vi m.Cols, .slice B m.Cells.length c], 3⟩, ⟨some ⟨b1, 0, none⟩, 32, [vi bar.Rows, vi bar.Cols, .slice B1 bar.Cells.length c1], 3⟩, ⟨some ⟨b2, 0, none⟩, 49, [vi 0, vi 0, vi 0, vi 0, vi 0], 5⟩, ⟨some ⟨b3, 0, none⟩, 72, (([2, 3, 4] : List Int).flatMap encI), 3⟩, ⟨B2, 49, (r_2.Cells.flatMap enc_Dyadic), c2 * 5⟩, ⟨some ⟨b4, 0, none⟩, 32, [vi r_2.Rows, vi r_2.Cols, .slice B2 r_2.Cells.length c2], 3⟩, ⟨B3, 49, (r_4.Cells.flatMap enc_Dyadic), c3 * 5⟩, ⟨some ⟨b5, 0, none⟩, 32, [vi r_4.Rows, vi r_4.Cols, .slice B3 r_4.Cells.length c3], 3⟩] [⟨B, (m.Cells.flatMap enc_Dyadic)⟩, ⟨B1, (bar.Cells.flatMap enc_Dyadic)⟩, ⟨(some ⟨0, 0, none⟩), [vi 1, vi 0, vi 0, vi 0, vi 2]⟩] := hS11
  refine sq 14 rfl rfl (Y_assign (v := .bool r_5) rfl rfl) ?_
  refine rw_nil ?_
  refine cw_seq ?_
  refine cw_region ?_
  refine sq 41 rfl rfl (Y_loadA (B := some ⟨b4, 0, none⟩) (i := 0) (cs := [vi r_2.Rows, vi r_2.Cols, .slice B2 r_2.Cells.length c2]) (vs := [vi r_2.Rows, vi r_2.Cols, .slice B2 r_2.Cells.length c2]) k_ag_32 k_sz_32_3 rfl rfl (hS11.cf (i := 5) rfl) rfl rfl) ?_
  refine sq 42 rfl rfl (Y_loadA (B := some ⟨b, 0, none⟩) (i := 0) (cs := [vi m.Rows, vi m.Cols, .slice B m.Cells.length c]) (vs := [vi m.Rows, vi m.Cols, .slice B m.Cells.length c]) k_ag_32 k_sz_32_3 rfl rfl (hS11.cf (i := 0) rfl) rfl rfl) ?_
  obtain ⟨⟨r_6, r_7⟩, hc2, hF⟩ := bind_inv hF
  refine sc 43 rfl rfl (Yc_func (g := 42) (vs := [.agg #[vi r_2.Rows, vi r_2.Cols, .slice B2 r_2.Cells.length c2], .agg #[vi m.Rows, vi m.Cols, .slice B m.Cells.length c]]) k_call_42 rfl (mc rfl (mc rfl mn)) (c_impl_MulMatrix r_2 m B2 c2 r_2.Cells.length B c m.Cells.length _ rfl rfl (hS11.inn0 [(false, 4), (true, 0)] rfl) hc2)) ?_
  rintro _ w_11 ⟨B4, c4, rfl, hd2⟩
  have hS12 := hS11.out0 hd2
  have hS12 : ST w0 [] _ [⟨some ⟨b, 0, none⟩, 32, [vi m.Rows, vi m.Cols, .slice B m.Cells.length c], 3⟩, ⟨some ⟨b1, 0, none⟩, 32, [vi bar.Rows, vi bar.Cols, .slice B1 bar.Cells.length c1], 3⟩, ⟨some ⟨b2, 0, none⟩, 49, [vi 0, vi 0, vi 0, vi 0, vi 0], 5⟩, ⟨some ⟨b3, 0, none⟩, 72, (([2, 3, 4] : List Int).flatMap encI), 3⟩, ⟨B2, 49, (r_2.Cells.flatMap enc_Dyadic), c2 * 5⟩, ⟨some ⟨b4, 0, none⟩, 32, [vi r_2.Rows, vi r_2.Cols, .slice B2 r_2.Cells.length c2], 3⟩, ⟨B3, 49, (r_4.Cells.flatMap enc_Dyadic), c3 * 5⟩, ⟨some ⟨b5, 0, none⟩, 32, [vi r_4.Rows, vi r_4.Cols, .slice B3 r_4.Cells.length c3], 3⟩, ⟨B4, 49, (r_6.Cells.flatMap enc_Dyadic), c4 * 5⟩] [⟨B, (m.Cells.flatMap enc_Dyadic)⟩, ⟨B1, (bar.Cells.flatMap enc_Dyadic)⟩, ⟨(some ⟨0, 0, none⟩), [vi 1, vi 0, vi 0, vi 0, vi 2]⟩] := hS12
  refine sq 40 rfl rfl (Y_move (v := .tuple #[.agg #[vi r_6.Rows, vi r_6.Cols, .slice B4 r_6.Cells.length c4], .bool r_7]) rfl rfl) ?_
  refine sq 44 rfl rfl (Y_extract (v := .agg #[vi r_6.Rows, vi r_6.Cols, .slice B4 r_6.Cells.length c4]) rfl rfl rfl) ?_
  refine sq 45 rfl rfl (Y_extract (v := .bool r_7) rfl rfl rfl) ?_
  refine ss 15 rfl rfl (Ys_alloc (T := 32) (cs := [vi 0, vi 0, .slice none 0 0]) (m := 3) hS12 k_zero_32 rfl rfl rfl) ?_
  rintro _ w_12 ⟨b6, rfl, hS13⟩
  have hS13 : ST w0 [] _ [⟨some ⟨b, 0, none⟩, 32, [vi m.Rows, vi m.Cols, .slice B m.Cells.length c], 3⟩, ⟨some ⟨b1, 0, none⟩, 32, [vi bar.Rows, vi bar.Cols, .slice B1 bar.Cells.length c1], 3⟩, ⟨some ⟨b2, 0, none⟩, 49, [vi 0, vi 0, vi 0, vi 0, vi 0], 5⟩, ⟨some ⟨b3, 0, none⟩, 72, (([2, 3, 4] : List Int).flatMap encI), 3⟩, ⟨B2, 49, (r_2.Cells.flatMap enc_Dyadic), c2 * 5⟩, ⟨some ⟨b4, 0, none⟩, 32, [vi r_2.Rows, vi r_2.Cols, .slice B2 r_2.Cells.length c2], 3⟩, ⟨B3, 49, (r_4.Cells.flatMap enc_Dyadic), c3 * 5⟩, ⟨some ⟨b5, 0, none⟩, 32, [vi r_4.Rows, vi r_4.Cols, .slice B3 r_4.Cells.length c3], 3⟩, ⟨B4, 49, (r_6.Cells.flatMap enc_Dyadic), c4 * 5⟩, ⟨some ⟨b6, 0, none⟩, 32, [vi 0, vi 0, .slice none 0 0], 3⟩] [⟨B, (m.Cells.flatMap enc_Dyadic)⟩, ⟨B1, (bar.Cells.flatMap enc_Dyadic)⟩, ⟨(some ⟨0, 0, none⟩), [vi 1, vi 0, vi 0, vi 0, vi 2]⟩] := hS13
  refine ss0 rfl rfl (Ys_store (i := 9) (s := 3) (B := some ⟨b6, 0, none⟩) (T' := 32) (v := .agg #[vi r_6.Rows, vi r_6.Cols, .slice B4 r_6.Cells.length c4]) (vs := [vi r_6.Rows, vi r_6.Cols, .slice B4 r_6.Cells.length c4]) (k := 0) (cs' := [vi r_6.Rows, vi r_6.Cols, .slice B4 r_6.Cells.length c4]) hS13 k_sz_32_3 rfl rfl rfl rfl rfl rfl rfl (Nat.le_of_ble_eq_true rfl) rfl rfl) ?_
  rintro _ w_13 ⟨rfl, hS14⟩
  have hS14 : ST w0 [] _ [⟨some ⟨b, 0, none⟩, 32, [vi m.Rows, vi m.Cols, .slice B m.Cells.length c], 3⟩, ⟨some ⟨b1, 0, none⟩, 32, [vi bar.Rows, vi bar.Cols, .slice B1 bar.Cells.length c1], 3⟩, ⟨some ⟨b2, 0, none⟩, 49, [vi 0, vi 0, vi 0, vi 0, vi 0], 5⟩, ⟨some ⟨b3, 0, none⟩, 72, (([2, 3, 4] : List Int).flatMap encI), 3⟩, ⟨B2, 49, (r_2.Cells.flatMap enc_Dyadic), c2 * 5⟩, ⟨some ⟨b4, 0, none⟩, 32, [vi r_2.Rows, vi r_2.Cols, .slice B2 r_2.Cells.length c2], 3⟩, ⟨B3, 49, (r_4.Cells.flatMap enc_Dyadic), c3 * 5⟩, ⟨some ⟨b5, 0, none⟩, 32, [vi r_4.Rows, vi r_4.Cols, .slice B3 r_4.Cells.length c3], 3⟩, ⟨B4, 49, (r_6.Cells.flatMap enc_Dyadic), c4 * 5⟩, ⟨some ⟨b6, 0, none⟩, 32, [vi r_6.Rows, vi r_6.Cols, .slice B4 r_6.Cells.length c4], 3⟩] [⟨B, (m.Cells.flatMap enc_Dyadic)⟩, ⟨B1, (bar.Cells.flatMap enc_Dyadic)⟩, ⟨(some ⟨0, 0, none⟩), [vi 1, vi 0, vi 0, vi 0, vi 2]⟩] := hS14
  refine sq 16 rfl rfl (Y_assign (v := .bool r_7) rfl rfl) ?_
  refine rw_nil ?_
  refine cw_seq ?_
  refine cw_region ?_
  refine sq 47 rfl rfl (Y_loadA (B := some ⟨b6, 0, none⟩) (i := 0) (cs := [vi r_6.Rows, vi r_6.Cols, .slice B4 r_6.Cells.length c4]) (vs := [vi r_6.Rows, vi r_6.Cols, .slice B4 r_6.Cells.length c4]) k_ag_32 k_sz_32_3 rfl rfl (hS14.cf (i := 9) rfl) rfl rfl) ?_
  refine sq 48 rfl rfl (Y_loadA (B := some ⟨b5, 0, none⟩) (i := 0) (cs := [vi r_4.Rows, vi r_4.Cols, .slice B3 r_4.Cells.length c3]) (vs := [vi r_4.Rows, vi r_4.Cols, .slice B3 r_4.Cells.length c3]) k_ag_32 k_sz_32_3 rfl rfl (hS14.cf (i := 7) rfl) rfl rfl) ?_
  obtain ⟨⟨r_8, r_9⟩, hc3, hF⟩ := bind_inv hF
  refine sc 49 rfl rfl (Yc_func (g := 42) (vs := [.agg #[vi r_6.Rows, vi r_6.Cols, .slice B4 r_6.Cells.length c4], .agg #[vi r_4.Rows, vi r_4.Cols, .slice B3 r_4.Cells.length c3]]) k_call_42 rfl (mc rfl (mc rfl mn)) (c_impl_MulMatrix r_6 r_4 B4 c4 r_6.Cells.length B3 c3 r_4.Cells.length _ rfl rfl (hS14.inn0 [(false, 8), (false, 6)] rfl) hc3)) ?_
  rintro _ w_14 ⟨B5, c5, rfl, hd3⟩
  have hS15 := hS14.out0 hd3
  have hS15 : ST w0 [] _ [⟨some ⟨b, 0, none⟩, 32, [vi m.Rows, vi m.Cols, .slice B m.Cells.length c], 3⟩, ⟨some ⟨b1, 0, none⟩, 32, [vi bar.Rows, vi bar.Cols, .slice B1 bar.Cells.length c1], 3⟩, ⟨some ⟨b2, 0, none⟩, 49, [vi 0, vi 0, vi 0, vi 0, vi 0], 5⟩, ⟨some ⟨b3, 0, none⟩, 72, (([2, 3, 4] : List Int).flatMap encI), 3⟩, ⟨B2, 49, (r_2.Cells.flatMap enc_Dyadic), c2 * 5⟩, ⟨some ⟨b4, 0, none⟩, 32, [vi r_2.Rows, vi r_2.Cols, .slice B2 r_2.Cells.length c2], 3⟩, ⟨B3, 49, (r_4.Cells.flatMap enc_Dyadic), c3 * 5⟩, ⟨some ⟨b5, 0, none⟩, 32, [vi r_4.Rows, vi r_4.Cols, .slice B3 r_4.Cells.length c3], 3⟩, ⟨B4, 49, (r_6.Cells.flatMap enc_Dyadic), c4 * 5⟩, ⟨some ⟨b6, 0, none⟩, 32, [vi r_6.Rows, vi r_6.Cols, .slice B4 r_6.Cells.length c4], 3⟩, ⟨B5, 49, (r_8.Cells.flatMap enc_Dyadic), c5 * 5⟩] [⟨B, (m.Cells.flatMap enc_Dyadic)⟩, ⟨B1, (bar.Cells.flatMap enc_Dyadic)⟩, ⟨(some ⟨0, 0, none⟩), [vi 1, vi 0, vi 0, vi 0, vi 2]⟩] := hS15
  refine sq 46 rfl rfl (Y_move (v := .tuple #[.agg #[vi r_8.Rows, vi r_8.Cols, .slice B5 r_8.Cells.length c5], .bool r_9]) rfl rfl) ?_
  refine sq 50 rfl rfl (Y_extract (v := .agg #[vi r_8.Rows, vi r_8.Cols, .slice B5 r_8.Cells.length c5]) rfl rfl rfl) ?_
  refine sq 51 rfl rfl (Y_extract (v := .bool r_9) rfl rfl rfl) ?_
  refine ss0 rfl rfl (Ys_store (i := 9) (s := 3) (B := some ⟨b6, 0, none⟩) (T' := 32) (v := .agg #[vi r_8.Rows, vi r_8.Cols, .slice B5 r_8.Cells.length c5]) (vs := [vi r_8.Rows, vi r_8.Cols, .slice B5 r_8.Cells.length c5]) (k := 0) (cs' := [vi r_8.Rows, vi r_8.Cols, .slice B5 r_8.Cells.length c5]) hS15 k_sz_32_3 rfl rfl rfl rfl rfl rfl rfl (Nat.le_of_ble_eq_true rfl) rfl rfl) ?_
  rintro _ w_15 ⟨rfl, hS16⟩
  have hS16 : ST w0 [] _ [⟨some ⟨b, 0, none⟩, 32, [vi m.Rows, vi m.Cols, .slice B m.Cells.length c], 3⟩, ⟨some ⟨b1, 0, none⟩, 32, [vi bar.Rows, vi bar.Cols, .slice B1 bar.Cells.length c1], 3⟩, ⟨some ⟨b2, 0, none⟩, 49, [vi 0, vi 0, vi 0, vi 0, vi 0], 5⟩, ⟨some ⟨b3, 0, none⟩, 72, (([2, 3, 4] : List Int).flatMap encI), 3⟩, ⟨B2, 49, (r_2.Cells.flatMap enc_Dyadic), c2 * 5⟩, ⟨some ⟨b4, 0, none⟩, 32, [vi r_2.Rows, vi r_2.Cols, .slice B2 r_2.Cells.length c2], 3⟩, ⟨B3, 49, (r_4.Cells.flatMap enc_Dyadic), c3 * 5⟩, ⟨some ⟨b5, 0, none⟩, 32, [vi r_4.Rows, vi r_4.Cols, .slice B3 r_4.Cells.length c3], 3⟩, ⟨B4, 49, (r_6.Cells.flatMap enc_Dyadic), c4 * 5⟩, ⟨some ⟨b6, 0, none⟩, 32, [vi r_8.Rows, vi r_8.Cols, .slice B5 r_8.Cells.length c5], 3⟩, ⟨B5, 49, (r_8.Cells.flatMap enc_Dyadic), c5 * 5⟩] [⟨B, (m.Cells.flatMap enc_Dyadic)⟩, ⟨B1, (bar.Cells.flatMap enc_Dyadic)⟩, ⟨(some ⟨0, 0, none⟩), [vi 1, vi 0, vi 0, vi 0, vi 2]⟩] := hS16
  refine sq 17 rfl rfl (Y_assign (v := .bool r_9) rfl rfl) ?_
  refine rw_nil ?_
  refine cw_seq ?_
  refine cw_region ?_
  refine sq 53 rfl rfl (Y_loadA (B := some ⟨b6, 0, none⟩) (i := 0) (cs := [vi r_8.Rows, vi r_8.Cols, .slice B5 r_8.Cells.length c5]) (vs := [vi r_8.Rows, vi r_8.Cols, .slice B5 r_8.Cells.length c5]) k_ag_32 k_sz_32_3 rfl rfl (hS16.cf (i := 9) rfl) rfl rfl) ?_
  refine sq 54 rfl rfl (Y_loadA (B := some ⟨b1, 0, none⟩) (i := 0) (cs := [vi bar.Rows, vi bar.Cols, .slice B1 bar.Cells.length c1]) (vs := [vi bar.Rows, vi bar.Cols, .slice B1 bar.Cells.length c1]) k_ag_32 k_sz_32_3 rfl rfl (hS16.cf (i := 1) rfl) rfl rfl) ?_
  obtain ⟨⟨r_10, r_11⟩, hc4, hF⟩ := bind_inv hF
  refine sc 55 rfl rfl (Yc_func (g := 42) (vs := [.agg #[vi r_8.Rows, vi r_8.Cols, .slice B5 r_8.Cells.length c5], .agg #[vi bar.Rows, vi bar.Cols, .slice B1 bar.Cells.length c1]]) k_call_42 rfl (mc rfl (mc rfl mn)) (c_impl_MulMatrix r_8 bar B5 c5 r_8.Cells.length B1 c1 bar.Cells.length _ rfl rfl (hS16.inn0 [(false, 10), (true, 1)] rfl) hc4)) ?_
  rintro _ w_16 ⟨B6, c6, rfl, hd4⟩
  have hS17 := hS16.out0 hd4
  have hS17 : ST w0 [] _ [⟨some ⟨b, 0, none⟩, 32, [vi m.Rows, vi m.Cols, .slice B m.Cells.length c], 3⟩, ⟨some ⟨b1, 0, none⟩, 32, [vi bar.Rows, vi bar.Cols, .slice B1 bar.Cells.length c1], 3⟩, ⟨some ⟨b2, 0, none⟩, 49, [vi 0, vi 0, vi 0, vi 0, vi 0], 5⟩, ⟨some ⟨b3, 0, none⟩, 72, (([2, 3, 4] : List Int).flatMap encI), 3⟩, ⟨B2, 49, (r_2.Cells.flatMap enc_Dyadic), c2 * 5⟩, ⟨some ⟨b4, 0, none⟩, 32, [vi r_2.Rows, vi r_2.Cols, .slice B2 r_2.Cells.length c2], 3⟩, ⟨B3, 49, (r_4.Cells.flatMap enc_Dyadic), c3 * 5⟩, ⟨some ⟨b5, 0, none⟩, 32, [vi r_4.Rows, vi r_4.Cols, .slice B3 r_4.Cells.length c3], 3⟩, ⟨B4, 49, (r_6.Cells.flatMap enc_Dyadic), c4 * 5⟩, ⟨some ⟨b6, 0, none⟩, 32, [vi r_8.Rows, vi r_8.Cols, .slice B5 r_8.Cells.length c5], 3⟩, ⟨B5, 49, (r_8.Cells.flatMap enc_Dyadic), c5 * 5⟩, ⟨B6, 49, (r_10.Cells.flatMap enc_Dyadic), c6 * 5⟩] [⟨B, (m.Cells.flatMap enc_Dyadic)⟩, ⟨B1, (bar.Cells.flatMap enc_Dyadic)⟩, ⟨(some ⟨0, 0, none⟩), [vi 1, vi 0, vi 0, vi 0, vi 2]⟩] := hS17
  refine sq 52 rfl rfl (Y_move (v := .tuple #[.agg #[vi r_10.Rows, vi r_10.Cols, .slice B6 r_10.Cells.length c6], .bool r_11]) rfl rfl) ?_
  refine sq 56 rfl rfl (Y_extract (v := .agg #[vi r_10.Rows, vi r_10.Cols, .slice B6 r_10.Cells.length c6]) rfl rfl rfl) ?_
  refine sq 57 rfl rfl (Y_extract (v := .bool r_11) rfl rfl rfl) ?_
  refine ss0 rfl rfl (Ys_store (i := 9) (s := 3) (B := some ⟨b6, 0, none⟩) (T' := 32) (v := .agg #[vi r_10.Rows, vi r_10.Cols, .slice B6 r_10.Cells.length c6]) (vs := [vi r_10.Rows, vi r_10.Cols, .slice B6 r_10.Cells.length c6]) (k := 0) (cs' := [vi r_10.Rows, vi r_10.Cols, .slice B6 r_10.Cells.length c6]) hS17 k_sz_32_3 rfl rfl rfl rfl rfl rfl rfl (Nat.le_of_ble_eq_true rfl) rfl rfl) ?_
  rintro _ w_17 ⟨rfl, hS18⟩
  have hS18 : ST w0 [] _ [⟨some ⟨b, 0, none⟩, 32, [vi m.Rows, vi m.Cols, .slice B m.Cells.length c], 3⟩, ⟨some ⟨b1, 0, none⟩, 32, [vi bar.Rows, vi bar.Cols, .slice B1 bar.Cells.length c1], 3⟩, ⟨some ⟨b2, 0, none⟩, 49, [vi 0, vi 0, vi 0, vi 0, vi 0], 5⟩, ⟨some ⟨b3, 0, none⟩, 72, (([2, 3, 4] : List Int).flatMap encI), 3⟩, ⟨B2, 49, (r_2.Cells.flatMap enc_Dyadic), c2 * 5⟩, ⟨some ⟨b4, 0, none⟩, 32, [vi r_2.Rows, vi r_2.Cols, .slice B2 r_2.Cells.length c2], 3⟩, ⟨B3, 49, (r_4.Cells.flatMap enc_Dyadic), c3 * 5⟩, ⟨some ⟨b5, 0, none⟩, 32, [vi r_4.Rows, vi r_4.Cols, .slice B3 r_4.Cells.length c3], 3⟩, ⟨B4, 49, (r_6.Cells.flatMap enc_Dyadic), c4 * 5⟩, ⟨some ⟨b6, 0, none⟩, 32, [vi r_10.Rows, vi r_10.Cols, .slice B6 r_10.Cells.length c6], 3⟩, ⟨B5, 49, (r_8.Cells.flatMap enc_Dyadic), c5 * 5⟩, ⟨B6, 49, (r_10.Cells.flatMap enc_Dyadic), c6 * 5⟩] [⟨B, (m.Cells.flatMap enc_Dyadic)⟩, ⟨B1, (bar.Cells.flatMap enc_Dyadic)⟩, ⟨(some ⟨0, 0, none⟩), [vi 1, vi 0, vi 0, vi 0, vi 2]⟩] := hS18
  refine sq 18 rfl rfl (Y_assign (v := .bool r_11) rfl rfl) ?_
  refine rw_nil ?_
  refine cw_seq ?_
  refine cw_region ?_
  refine sq 59 rfl rfl (Y_loadA (B := some ⟨b6, 0, none⟩) (i := 0) (cs := [vi r_10.Rows, vi r_10.Cols, .slice B6 r_10.Cells.length c6]) (vs := [vi r_10.Rows, vi r_10.Cols, .slice B6 r_10.Cells.length c6]) k_ag_32 k_sz_32_3 rfl rfl (hS18.cf (i := 9) rfl) rfl rfl) ?_
  obtain ⟨⟨r_12, r_13⟩, hc5, hF⟩ := bind_inv hF
  refine sc 60 rfl rfl (Yc_func (g := 43) (vs := [.agg #[vi r_10.Rows, vi r_10.Cols, .slice B6 r_10.Cells.length c6]]) k_call_43 rfl (mc rfl mn) (c_impl_TraceOf r_10 B6 c6 r_10.Cells.length _ rfl (hS18.inn0 [(false, 11)] rfl) hc5)) ?_
  rintro _ w_18 ⟨rfl, hd5⟩
  have hS19 := hS18.out00 hd5
  have hS19 : ST w0 [] _ [⟨some ⟨b, 0, none⟩, 32, [vi m.Rows, vi m.Cols, .slice B m.Cells.length c], 3⟩, ⟨some ⟨b1, 0, none⟩, 32, [vi bar.Rows, vi bar.Cols, .slice B1 bar.Cells.length c1], 3⟩, ⟨some ⟨b2, 0, none⟩, 49, [vi 0, vi 0, vi 0, vi 0, vi 0], 5⟩, ⟨some ⟨b3, 0, none⟩, 72, (([2, 3, 4] : List Int).flatMap encI), 3⟩, ⟨B2, 49, (r_2.Cells.flatMap enc_Dyadic), c2 * 5⟩, ⟨some ⟨b4, 0, none⟩, 32, [vi r_2.Rows, vi r_2.Cols, .slice B2 r_2.Cells.length c2], 3⟩, ⟨B3, 49, (r_4.Cells.flatMap enc_Dyadic), c3 * 5⟩, ⟨some ⟨b5, 0, none⟩, 32, [vi r_4.Rows, vi r_4.Cols, .slice B3 r_4.Cells.length c3], 3⟩, ⟨B4, 49, (r_6.Cells.flatMap enc_Dyadic), c4 * 5⟩, ⟨some ⟨b6, 0, none⟩, 32, [vi r_10.Rows, vi r_10.Cols, .slice B6 r_10.Cells.length c6], 3⟩, ⟨B5, 49, (r_8.Cells.flatMap enc_Dyadic), c5 * 5⟩, ⟨B6, 49, (r_10.Cells.flatMap enc_Dyadic), c6 * 5⟩] [⟨B, (m.Cells.flatMap enc_Dyadic)⟩, ⟨B1, (bar.Cells.flatMap enc_Dyadic)⟩, ⟨(some ⟨0, 0, none⟩), [vi 1, vi 0, vi 0, vi 0, vi 2]⟩] := hS19
  refine sq 58 rfl rfl (Y_move (v := .tuple #[.agg #[vi r_12.Num.A, vi r_12.Num.B, vi r_12.Num.C, vi r_12.Num.D, vi r_12.Exp], .bool r_13]) rfl rfl) ?_
  refine sq 61 rfl rfl (Y_extract (v := .agg #[vi r_12.Num.A, vi r_12.Num.B, vi r_12.Num.C, vi r_12.Num.D, vi r_12.Exp]) rfl rfl rfl) ?_
  refine sq 62 rfl rfl (Y_extract (v := .bool r_13) rfl rfl rfl) ?_
  refine ss 19 rfl rfl (Ys_alloc (T := 49) (cs := [vi 0, vi 0, vi 0, vi 0, vi 0]) (m := 5) hS19 k_zero_49 rfl rfl rfl) ?_
  rintro _ w_19 ⟨b7, rfl, hS20⟩
  have hS20 : ST w0 [] _ [⟨some ⟨b, 0, none⟩, 32, [vi m.Rows, vi m.Cols, .slice B m.Cells.length c], 3⟩, ⟨some ⟨b1, 0, none⟩, 32, [vi bar.Rows, vi bar.Cols, .slice B1 bar.Cells.length c1], 3⟩, ⟨some ⟨b2, 0, none⟩, 49, [vi 0, vi 0, vi 0, vi 0, vi 0], 5⟩, ⟨some ⟨b3, 0, none⟩, 72, (([2, 3, 4] : List Int).flatMap encI), 3⟩, ⟨B2, 49, (r_2.Cells.flatMap enc_Dyadic), c2 * 5⟩, ⟨some ⟨b4, 0, none⟩, 32, [vi r_2.Rows, vi r_2.Cols, .slice B2 r_2.Cells.length c2], 3⟩, ⟨B3, 49, (r_4.Cells.flatMap enc_Dyadic), c3 * 5⟩, ⟨some ⟨b5, 0, none⟩, 32, [vi r_4.Rows, vi r_4.Cols, .slice B3 r_4.Cells.length c3], 3⟩, ⟨B4, 49, (r_6.Cells.flatMap enc_Dyadic), c4 * 5⟩, ⟨some ⟨b6, 0, none⟩, 32, [vi r_10.Rows, vi r_10.Cols, .slice B6 r_10.Cells.length c6], 3⟩, ⟨B5, 49, (r_8.Cells.flatMap enc_Dyadic), c5 * 5⟩, ⟨B6, 49, (r_10.Cells.flatMap enc_Dyadic), c6 * 5⟩, ⟨some ⟨b7, 0, none⟩, 49, [vi 0, vi 0, vi 0, vi 0, vi 0], 5⟩] [⟨B, (m.Cells.flatMap enc_Dyadic)⟩, ⟨B1, (bar.Cells.flatMap enc_Dyadic)⟩, ⟨(some ⟨0, 0, none⟩), [vi 1, vi 0, vi 0, vi 0, vi 2]⟩] := hS20
  refine ss0 rfl rfl (Ys_store (i := 12) (s := 5) (B := some ⟨b7, 0, none⟩) (T' := 49) (v := .agg #[vi r_12.Num.A, vi r_12.Num.B, vi r_12.Num.C, vi r_12.Num.D, vi r_12.Exp]) (vs := [vi r_12.Num.A, vi r_12.Num.B, vi r_12.Num.C, vi r_12.Num.D, vi r_12.Exp]) (k := 0) (cs' := [vi r_12.Num.A, vi r_12.Num.B, vi r_12.Num.C, vi r_12.Num.D, vi r_12.Exp]) hS20 k_sz_49_5 rfl rfl rfl rfl rfl rfl rfl (Nat.le_of_ble_eq_true rfl) rfl rfl) ?_
  rintro _ w_20 ⟨rfl, hS21⟩
  have hS21 : ST w0 [] _ [⟨some ⟨b, 0, none⟩, 32, [vi m.Rows, vi m.Cols, .slice B m.Cells.length c], 3⟩, ⟨some ⟨b1, 0, none⟩, 32, [vi bar.Rows, vi bar.Cols, .slice B1 bar.Cells.length c1], 3⟩, ⟨some ⟨b2, 0, none⟩, 49, [vi 0, vi 0, vi 0, vi 0, vi 0], 5⟩, ⟨some ⟨b3, 0, none⟩, 72, (([2, 3, 4] : List Int).flatMap encI), 3⟩, ⟨B2, 49, (r_2.Cells.flatMap enc_Dyadic), c2 * 5⟩, ⟨some ⟨b4, 0, none⟩, 32, [vi r_2.Rows, vi r_2.Cols, .slice B2 r_2.Cells.length c2], 3⟩, ⟨B3, 49, (r_4.Cells.flatMap enc_Dyadic), c3 * 5⟩, ⟨some ⟨b5, 0, none⟩, 32, [vi r_4.Rows, vi r_4.Cols, .slice B3 r_4.Cells.length c3], 3⟩, ⟨B4, 49, (r_6.Cells.flatMap enc_Dyadic), c4 * 5⟩, ⟨some ⟨b6, 0, none⟩, 32, [vi r_10.Rows, vi r_10.Cols, .slice B6 r_10.Cells.length c6], 3⟩, ⟨B5, 49, (r_8.Cells.flatMap enc_Dyadic), c5 * 5⟩, ⟨B6, 49, (r_10.Cells.flatMap enc_Dyadic), c6 * 5⟩, ⟨some ⟨b7, 0, none⟩, 49, [vi r_12.Num.A, vi r_12.Num.B, vi r_12.Num.C, vi r_12.Num.D, vi r_12.Exp], 5⟩] [⟨B, (m.Cells.flatMap enc_Dyadic)⟩, ⟨B1, (bar.Cells.flatMap enc_Dyadic)⟩, ⟨(some ⟨0, 0, none⟩), [vi 1, vi 0, vi 0, vi 0, vi 2]⟩] := hS21
  refine sq 20 rfl rfl (Y_assign (v := .bool r_13) rfl rfl) ?_
  refine rw_nil ?_
  refine cw_seq ?_
  refine cw_region ?_
  refine sq 64 rfl rfl (Y_loadA (B := some ⟨b7, 0, none⟩) (i := 0) (cs := [vi r_12.Num.A, vi r_12.Num.B, vi r_12.Num.C, vi r_12.Num.D, vi r_12.Exp]) (vs := [vi r_12.Num.A, vi r_12.Num.B, vi r_12.Num.C, vi r_12.Num.D, vi r_12.Exp]) k_ag_49 k_sz_49_5 rfl rfl (hS21.cf (i := 12) rfl) rfl rfl) ?_
  refine sq 65 rfl rfl (Y_loadA (B := (some ⟨0, 0, none⟩)) (i := 0) (cs := [vi 1, vi 0, vi 0, vi 0, vi 2]) (vs := [vi 1, vi 0, vi 0, vi 0, vi 2]) k_ag_49 k_sz_49_5 rfl rfl (hS21.rf (i := 2) rfl) rfl rfl) ?_
  obtain ⟨⟨r_14, r_15⟩, hc6, hF⟩ := bind_inv hF
  refine sc 66 rfl rfl (Yc_func (g := 44) (vs := [.agg #[vi r_12.Num.A, vi r_12.Num.B, vi r_12.Num.C, vi r_12.Num.D, vi r_12.Exp], .agg #[vi 1, vi 0, vi 0, vi 0, vi 2]]) k_call_44 rfl (mc rfl (mc rfl mn)) (c_impl_MulDyadic r_12 (TDyadic.mk (TRing.mk 1 0 0 0) 2) _  (hS21.inn0 [] rfl) hc6)) ?_
  rintro _ w_21 ⟨rfl, hd6⟩
  have hS22 := hS21.out00 hd6
  have hS22 : ST w0 [] _ [⟨some ⟨b, 0, none⟩, 32, [vi m.Rows, vi m.Cols, .slice B m.Cells.length c], 3⟩, ⟨some ⟨b1, 0, none⟩, 32, [vi bar.Rows, vi bar.Cols, .slice B1 bar.Cells.length c1], 3⟩, ⟨some ⟨b2, 0, none⟩, 49, [vi 0, vi 0, vi 0, vi 0, vi 0], 5⟩, ⟨some ⟨b3, 0, none⟩, 72, (([2, 3, 4] : List Int).flatMap encI), 3⟩, ⟨B2, 49, (r_2.Cells.flatMap enc_Dyadic), c2 * 5⟩, ⟨some ⟨b4, 0, none⟩, 32, [vi r_2.Rows, vi r_2.Cols, .slice B2 r_2.Cells.length c2], 3⟩, ⟨B3, 49, (r_4.Cells.flatMap enc_Dyadic), c3 * 5⟩, ⟨some ⟨b5, 0, none⟩, 32, [vi r_4.Rows, vi r_4.Cols, .slice B3 r_4.Cells.length c3], 3⟩, ⟨B4, 49, (r_6.Cells.flatMap enc_Dyadic), c4 * 5⟩, ⟨some ⟨b6, 0, none⟩, 32, [vi r_10.Rows, vi r_10.Cols, .slice B6 r_10.Cells.length c6], 3⟩, ⟨B5, 49, (r_8.Cells.flatMap enc_Dyadic), c5 * 5⟩, ⟨B6, 49, (r_10.Cells.flatMap enc_Dyadic), c6 * 5⟩, ⟨some ⟨b7, 0, none⟩, 49, [vi r_12.Num.A, vi r_12.Num.B, vi r_12.Num.C, vi r_12.Num.D, vi r_12.Exp], 5⟩] [⟨B, (m.Cells.flatMap enc_Dyadic)⟩, ⟨B1, (bar.Cells.flatMap enc_Dyadic)⟩, ⟨(some ⟨0, 0, none⟩), [vi 1, vi 0, vi 0, vi 0, vi 2]⟩] := hS22
  refine sq 63 rfl rfl (Y_move (v := .tuple #[.agg #[vi r_14.Num.A, vi r_14.Num.B, vi r_14.Num.C, vi r_14.Num.D, vi r_14.Exp], .bool r_15]) rfl rfl) ?_
  refine sq 67 rfl rfl (Y_extract (v := .agg #[vi r_14.Num.A, vi r_14.Num.B, vi r_14.Num.C, vi r_14.Num.D, vi r_14.Exp]) rfl rfl rfl) ?_
  refine sq 68 rfl rfl (Y_extract (v := .bool r_15) rfl rfl rfl) ?_
  refine ss 21 rfl rfl (Ys_alloc (T := 49) (cs := [vi 0, vi 0, vi 0, vi 0, vi 0]) (m := 5) hS22 k_zero_49 rfl rfl rfl) ?_
  rintro _ w_22 ⟨b8, rfl, hS23⟩
  have hS23 : ST w0 [] _ [⟨some ⟨b, 0, none⟩, 32, [vi m.Rows, vi m.Cols, .slice B m.Cells.length c], 3⟩, ⟨some ⟨b1, 0, none⟩, 32, [vi bar.Rows, vi bar.Cols, .slice B1 bar.Cells.length c1], 3⟩, ⟨some ⟨b2, 0, none⟩, 49, [vi 0, vi 0, vi 0, vi 0, vi 0], 5⟩, ⟨some ⟨b3, 0, none⟩, 72, (([2, 3, 4] : List Int).flatMap encI), 3⟩, ⟨B2, 49, (r_2.Cells.flatMap enc_Dyadic), c2 * 5⟩, ⟨some ⟨b4, 0, none⟩, 32, [vi r_2.Rows, vi r_2.Cols, .slice B2 r_2.Cells.length c2], 3⟩, ⟨B3, 49, (r_4.Cells.flatMap enc_Dyadic), c3 * 5⟩, ⟨some ⟨b5, 0, none⟩, 32, [vi r_4.Rows, vi r_4.Cols, .slice B3 r_4.Cells.length c3], 3⟩, ⟨B4, 49, (r_6.Cells.flatMap enc_Dyadic), c4 * 5⟩, ⟨some ⟨b6, 0, none⟩, 32, [vi r_10.Rows, vi r_10.Cols, .slice B6 r_10.Cells.length c6], 3⟩, ⟨B5, 49, (r_8.Cells.flatMap enc_Dyadic), c5 * 5⟩, ⟨B6, 49, (r_10.Cells.flatMap enc_Dyadic), c6 * 5⟩, ⟨some ⟨b7, 0, none⟩, 49, [vi r_12.Num.A, vi r_12.Num.B, vi r_12.Num.C, vi r_12.Num.D, vi r_12.Exp], 5⟩, ⟨some ⟨b8, 0, none⟩, 49, [vi 0, vi 0, vi 0, vi 0, vi 0], 5⟩] [⟨B, (m.Cells.flatMap enc_Dyadic)⟩, ⟨B1, (bar.Cells.flatMap enc_Dyadic)⟩, ⟨(some ⟨0, 0, none⟩), [vi 1, vi 0, vi 0, vi 0, vi 2]⟩] := hS23
  refine ss0 rfl rfl (Ys_store (i := 13) (s := 5) (B := some ⟨b8, 0, none⟩) (T' := 49) (v := .agg #[vi r_14.Num.A, vi r_14.Num.B, vi r_14.Num.C, vi r_14.Num.D, vi r_14.Exp]) (vs := [vi r_14.Num.A, vi r_14.Num.B, vi r_14.Num.C, vi r_14.Num.D, vi r_14.Exp]) (k := 0) (cs' := [vi r_14.Num.A, vi r_14.Num.B, vi r_14.Num.C, vi r_14.Num.D, vi r_14.Exp]) hS23 k_sz_49_5 rfl rfl rfl rfl rfl rfl rfl (Nat.le_of_ble_eq_true rfl) rfl rfl) ?_
  rintro _ w_23 ⟨rfl, hS24⟩
  have hS24 : ST w0 [] _ [⟨some ⟨b, 0, none⟩, 32, [vi m.Rows, vi m.Cols, .slice B m.Cells.length c], 3⟩, ⟨some ⟨b1, 0, none⟩, 32, [vi bar.Rows, vi bar.Cols, .slice B1 bar.Cells.length c1], 3⟩, ⟨some ⟨b2, 0, none⟩, 49, [vi 0, vi 0, vi 0, vi 0, vi 0], 5⟩, ⟨some ⟨b3, 0, none⟩, 72, (([2, 3, 4] : List Int).flatMap encI), 3⟩, ⟨B2, 49, (r_2.Cells.flatMap enc_Dyadic), c2 * 5⟩, ⟨some ⟨b4, 0, none⟩, 32, [vi r_2.Rows, vi r_2.Cols, .slice B2 r_2.Cells.length c2], 3⟩, ⟨B3, 49, (r_4.Cells.flatMap enc_Dyadic), c3 * 5⟩, ⟨some ⟨b5, 0, none⟩, 32, [vi r_4.Rows, vi r_4.Cols, .slice B3 r_4.Cells.length c3], 3⟩, ⟨B4, 49, (r_6.Cells.flatMap enc_Dyadic), c4 * 5⟩, ⟨some ⟨b6, 0, none⟩, 32, [vi r_10.Rows, vi r_10.Cols, .slice B6 r_10.Cells.length c6], 3⟩, ⟨B5, 49, (r_8.Cells.flatMap enc_Dyadic), c5 * 5⟩, ⟨B6, 49, (r_10.Cells.flatMap enc_Dyadic), c6 * 5⟩, ⟨some ⟨b7, 0, none⟩, 49, [vi r_12.Num.A, vi r_12.Num.B, vi r_12.Num.C, vi r_12.Num.D, vi r_12.Exp], 5⟩, ⟨some ⟨b8, 0, none⟩, 49, [vi r_14.Num.A, vi r_14.Num.B, vi r_14.Num.C, vi r_14.Num.D, vi r_14.Exp], 5⟩] [⟨B, (m.Cells.flatMap enc_Dyadic)⟩, ⟨B1, (bar.Cells.flatMap enc_Dyadic)⟩, ⟨(some ⟨0, 0, none⟩), [vi 1, vi 0, vi 0, vi 0, vi 2]⟩] := hS24
  refine sq 22 rfl rfl (Y_assign (v := .bool r_15) rfl rfl) ?_
  refine rw_nil ?_
  refine cw_seq ?_
  refine cw_region ?_
  refine sq 69 rfl rfl (Y_loadA (B := some ⟨b8, 0, none⟩) (i := 0) (cs := [vi r_14.Num.A, vi r_14.Num.B, vi r_14.Num.C, vi r_14.Num.D, vi r_14.Exp]) (vs := [vi r_14.Num.A, vi r_14.Num.B, vi r_14.Num.C, vi r_14.Num.D, vi r_14.Exp]) k_ag_49 k_sz_49_5 rfl rfl (hS24.cf (i := 13) rfl) rfl rfl) ?_
  refine sq 70 rfl rfl (Y_move (v := .bool r_7) rfl rfl) ?_
  refine sq 71 rfl rfl (Y_move (v := .bool r_7) rfl rfl) ?_
  refine sgq 72 (B := r_7) (v := .bool r_9) rfl rfl (wt_t (gd_of (t := 71) (by kernel_rfl) rfl)) (fun hg => (Y_move (v := .bool r_9) rfl rfl)) ?_
  refine sq 73 rfl rfl (Y_and (b := r_7) (z := r_9) rfl rfl rfl rfl) ?_
  refine sq 74 rfl rfl (Y_move (v := .bool (r_7 && r_9)) rfl rfl) ?_
  refine sgq 75 (B := (r_7 && r_9)) (v := .bool r_11) rfl rfl (wt_t (gd_of (t := 74) (by kernel_rfl) rfl)) (fun hg1 => (Y_move (v := .bool r_11) rfl rfl)) ?_
  refine sq 76 rfl rfl (Y_and (b := (r_7 && r_9)) (z := r_11) rfl rfl rfl rfl) ?_
  refine sq 77 rfl rfl (Y_move (v := .bool ((r_7 && r_9) && r_11)) rfl rfl) ?_
  refine sgq 78 (B := ((r_7 && r_9) && r_11)) (v := .bool r_13) rfl rfl (wt_t (gd_of (t := 77) (by kernel_rfl) rfl)) (fun hg2 => (Y_move (v := .bool r_13) rfl rfl)) ?_
  refine sq 79 rfl rfl (Y_and (b := ((r_7 && r_9) && r_11)) (z := r_13) rfl rfl rfl rfl) ?_
  refine sq 80 rfl rfl (Y_move (v := .bool (((r_7 && r_9) && r_11) && r_13)) rfl rfl) ?_
  refine sgq 81 (B := (((r_7 && r_9) && r_11) && r_13)) (v := .bool r_15) rfl rfl (wt_t (gd_of (t := 80) (by kernel_rfl) rfl)) (fun hg3 => (Y_move (v := .bool r_15) rfl rfl)) ?_
  refine sq 82 rfl rfl (Y_and (b := (((r_7 && r_9) && r_11) && r_13)) (z := r_15) rfl rfl rfl rfl) ?_
  refine ss0 rfl rfl (Ys_store (i := 2) (s := 5) (B := some ⟨b2, 0, none⟩) (T' := 49) (v := .agg #[vi r_14.Num.A, vi r_14.Num.B, vi r_14.Num.C, vi r_14.Num.D, vi r_14.Exp]) (vs := [vi r_14.Num.A, vi r_14.Num.B, vi r_14.Num.C, vi r_14.Num.D, vi r_14.Exp]) (k := 0) (cs' := [vi r_14.Num.A, vi r_14.Num.B, vi r_14.Num.C, vi r_14.Num.D, vi r_14.Exp]) hS24 k_sz_49_5 rfl rfl rfl rfl rfl rfl rfl (Nat.le_of_ble_eq_true rfl) rfl rfl) ?_
  rintro _ w_24 ⟨rfl, hS25⟩
  have hS25 : ST w0 [] _ [⟨some ⟨b, 0, none⟩, 32, [vi m.Rows, vi m.Cols, .slice B m.Cells.length c], 3⟩, ⟨some ⟨b1, 0, none⟩, 32, [vi bar.Rows, vi bar.Cols, .slice B1 bar.Cells.length c1], 3⟩, ⟨some ⟨b2, 0, none⟩, 49, [vi r_14.Num.A, vi r_14.Num.B, vi r_14.Num.C, vi r_14.Num.D, vi r_14.Exp], 5⟩, ⟨some ⟨b3, 0, none⟩, 72, (([2, 3, 4] : List Int).flatMap encI), 3⟩, ⟨B2, 49, (r_2.Cells.flatMap enc_Dyadic), c2 * 5⟩, ⟨some ⟨b4, 0, none⟩, 32, [vi r_2.Rows, vi r_2.Cols, .slice B2 r_2.Cells.length c2], 3⟩, ⟨B3, 49, (r_4.Cells.flatMap enc_Dyadic), c3 * 5⟩, ⟨some ⟨b5, 0, none⟩, 32, [vi r_4.Rows, vi r_4.Cols, .slice B3 r_4.Cells.length c3], 3⟩, ⟨B4, 49, (r_6.Cells.flatMap enc_Dyadic), c4 * 5⟩, ⟨some ⟨b6, 0, none⟩, 32, [vi r_10.Rows, vi r_10.Cols, .slice B6 r_10.Cells.length c6], 3⟩, ⟨B5, 49, (r_8.Cells.flatMap enc_Dyadic), c5 * 5⟩, ⟨B6, 49, (r_10.Cells.flatMap enc_Dyadic), c6 * 5⟩, ⟨some ⟨b7, 0, none⟩, 49, [vi r_12.Num.A, vi r_12.Num.B, vi r_12.Num.C, vi r_12.Num.D, vi r_12.Exp], 5⟩, ⟨some ⟨b8, 0, none⟩, 49, [vi r_14.Num.A, vi r_14.Num.B, vi r_14.Num.C, vi r_14.Num.D, vi r_14.Exp], 5⟩] [⟨B, (m.Cells.flatMap enc_Dyadic)⟩, ⟨B1, (bar.Cells.flatMap enc_Dyadic)⟩, ⟨(some ⟨0, 0, none⟩), [vi 1, vi 0, vi 0, vi 0, vi 2]⟩] := hS25
  refine sq 9 rfl rfl (Y_assign (v := .bool ((((r_7 && r_9) && r_11) && r_13) && r_15)) rfl rfl) ?_
  refine rw_nil ?_
  refine cw_ret ?_
  obtain ⟨rfl, rfl⟩ := pr2 (some_inj hF)
  exact ret2 Tryd.results22 (v1 := .agg #[vi r_14.Num.A, vi r_14.Num.B, vi r_14.Num.C, vi r_14.Num.D, vi r_14.Exp]) (resAt_cellA (B := some ⟨b2, 0, none⟩) (i := 0) (cs := [vi r_14.Num.A, vi r_14.Num.B, vi r_14.Num.C, vi r_14.Num.D, vi r_14.Exp]) (vs := [vi r_14.Num.A, vi r_14.Num.B, vi r_14.Num.C, vi r_14.Num.D, vi r_14.Exp]) rfl k_ag_49 k_sz_49_5 (hS25.cf (i := 2) rfl) rfl rfl) (v2 := .bool ((((r_7 && r_9) && r_11) && r_13) && r_15)) (resAt_tmp rfl) ⟨rfl, (ST.subR (R' := []) (hS25.sel [] rfl rfl) (fun _ h => by cases h))⟩

theorem c_impl_BlochOf (m : TMatrix) (B : Option Addr) (c n : Nat) (w0 : World) (hn : m.Cells.length = n) (hS : ST w0 [] w0 [] [⟨B, (m.Cells.flatMap enc_Dyadic)⟩, ⟨(some ⟨0, 0, none⟩), [vi 1, vi 0, vi 0, vi 0, vi 2]⟩]) {r_ : TBloch} {r_1 : Bool} (hF : F_impl_BlochOf m = some (r_, r_1)) :
    CV Tryd.prog 8 #[.agg #[vi m.Rows, vi m.Cols, .slice B n c]] w0 (fun v w' => ∃ (B1 : Option Addr) (c1 : Nat), v = .tuple #[.agg #[.slice B1 r_.Cells.length c1], .bool r_1] ∧ ST w0 [] w' [⟨B1, 49, (r_.Cells.flatMap enc_Dyadic), c1 * 5⟩] []) := by
  subst hn
  unfold F_impl_BlochOf at hF
  refine cv_of_cw 47 Tryd.func8 rfl Tryd.ntmps8 rfl ?_
  refine cw_seq ?_
  refine cw_region ?_
  refine ss 1 rfl rfl (Ys_box (T := 32) (v := .agg #[vi m.Rows, vi m.Cols, .slice B m.Cells.length c]) (cs := [vi m.Rows, vi m.Cols, .slice B m.Cells.length c]) (m := 3) hS rfl rfl rfl rfl) ?_
  rintro _ w_ ⟨b, rfl, hS1⟩
  refine ss 2 rfl rfl (Ys_alloc (T := 28) (cs := [.slice none 0 0]) (m := 1) hS1 k_zero_28 rfl rfl rfl) ?_
  rintro _ w_1 ⟨b1, rfl, hS2⟩
  have hS2 : ST w0 [] _ [⟨some ⟨b, 0, none⟩, 32, [vi m.Rows, vi m.Cols, .slice B m.Cells.length c], 3⟩, ⟨some ⟨b1, 0, none⟩, 28, [.slice none 0 0], 1⟩] [⟨B, (m.Cells.flatMap enc_Dyadic)⟩, ⟨(some ⟨0, 0, none⟩), [vi 1, vi 0, vi 0, vi 0, vi 2]⟩] := hS2
  refine sq 3 rfl rfl (Y_assign (v := .bool false) rfl rfl) ?_
  refine rw_nil ?_
  refine cw_seq ?_
  refine cw_seq ?_
  refine cw_region ?_
  refine sq 11 rfl rfl (Y_loadA (B := some ⟨b, 0, none⟩) (i := 0) (cs := [vi m.Rows, vi m.Cols, .slice B m.Cells.length c]) (vs := [vi m.Rows, vi m.Cols, .slice B m.Cells.length c]) k_ag_32 k_sz_32_3 rfl rfl (hS2.cf (i := 0) rfl) rfl rfl) ?_
  obtain ⟨r_2, hc, hF⟩ := bind_inv hF
  refine sc 12 rfl rfl (Yc_func (g := 20) (vs := [.agg #[vi m.Rows, vi m.Cols, .slice B m.Cells.length c]]) k_call_20 rfl (mc rfl mn) (c_impl_IsOneQubit m B c m.Cells.length _ rfl (hS2.inn0 [(true, 0)] rfl) hc)) ?_
  rintro _ w_2 ⟨rfl, hd⟩
  have hS3 := hS2.out00 hd
  have hS3 : ST w0 [] _ [⟨some ⟨b, 0, none⟩, 32, [vi m.Rows, vi m.Cols, .slice B m.Cells.length c], 3⟩, ⟨some ⟨b1, 0, none⟩, 28, [.slice none 0 0], 1⟩] [⟨B, (m.Cells.flatMap enc_Dyadic)⟩, ⟨(some ⟨0, 0, none⟩), [vi 1, vi 0, vi 0, vi 0, vi 2]⟩] := hS3
  refine sq 13 rfl rfl (Y_not (p := r_2) rfl rfl) ?_
  refine rw_nil ?_
  refine cw_cond (b := (!r_2)) rfl (fun hb => ?_) (fun hb => ?_)
  · skip
    have hF1 := ct hF hb
    refine cw_seq ?_
    refine cw_region ?_
    refine sq 14 rfl rfl (Y_buildS (zs := [.slice none 0 0]) (vs := []) (cs := [.slice none 0 0]) k_pl_28 k_zero_28 rfl mpn rfl) ?_
    refine ss0 rfl rfl (Ys_store (i := 1) (s := 1) (B := some ⟨b1, 0, none⟩) (T' := 28) (v := .agg #[.slice none 0 0]) (vs := [.slice none 0 0]) (k := 0) (cs' := [.slice none 0 0]) hS3 k_sz_28_1 rfl rfl rfl rfl rfl rfl rfl (Nat.le_of_ble_eq_true rfl) rfl rfl) ?_
    rintro _ w_3 ⟨rfl, hS4⟩
    have hS4 : ST w0 [] _ [⟨some ⟨b, 0, none⟩, 32, [vi m.Rows, vi m.Cols, .slice B m.Cells.length c], 3⟩, ⟨some ⟨b1, 0, none⟩, 28, [.slice none 0 0], 1⟩] [⟨B, (m.Cells.flatMap enc_Dyadic)⟩, ⟨(some ⟨0, 0, none⟩), [vi 1, vi 0, vi 0, vi 0, vi 2]⟩] := hS4
    refine sq 3 rfl rfl (Y_assign (v := .bool false) rfl rfl) ?_
    refine rw_nil ?_
    refine cw_ret ?_
    have hS5 := hS4.addNil 49
    obtain ⟨rfl, rfl⟩ := pr2 (some_inj hF1)
    exact ret2 Tryd.results8 (v1 := .agg #[.slice none 0 0]) (resAt_cellA (B := some ⟨b1, 0, none⟩) (i := 0) (cs := [.slice none 0 0]) (vs := [.slice none 0 0]) rfl k_ag_28 k_sz_28_1 (hS5.cf (i := 1) rfl) rfl rfl) (v2 := .bool false) (resAt_tmp rfl) ⟨none, 0, rfl, (ST.subR (R' := []) (hS5.sel [2] rfl rfl) (fun _ h => by cases h))⟩
  · skip
    have hF2 := cf' hF hb
    refine cw_skip ?_
    refine cw_seq ?_
    refine cw_region ?_
    refine sq 16 rfl rfl (Y_loadA (B := some ⟨b, 0, none⟩) (i := 0) (cs := [vi m.Rows, vi m.Cols, .slice B m.Cells.length c]) (vs := [vi m.Rows, vi m.Cols, .slice B m.Cells.length c]) k_ag_32 k_sz_32_3 rfl rfl (hS3.cf (i := 0) rfl) rfl rfl) ?_
    obtain ⟨⟨r_3, r_4⟩, hc1, hF2⟩ := bind_inv hF2
    refine sc 17 rfl rfl (Yc_func (g := 21) (vs := [.agg #[vi m.Rows, vi m.Cols, .slice B m.Cells.length c]]) k_call_21 rfl (mc rfl mn) (c_impl_Adjoint m B c m.Cells.length _ rfl (hS3.inn0 [(true, 0)] rfl) hc1)) ?_
    rintro _ w_4 ⟨B2, c2, rfl, hd1⟩
    have hS6 := hS3.out0 hd1
    have hS6 : ST w0 [] _ [⟨some ⟨b, 0, none⟩, 32, [vi m.Rows, vi m.Cols, .slice B m.Cells.length c], 3⟩, ⟨some ⟨b1, 0, none⟩, 28, [.slice none 0 0], 1⟩, ⟨B2, 49, (r_3.Cells.flatMap enc_Dyadic), c2 * 5⟩] [⟨B, (m.Cells.flatMap enc_Dyadic)⟩, ⟨(some ⟨0, 0, none⟩), [vi 1, vi 0, vi 0, vi 0, vi 2]⟩] := hS6
    refine sq 15 rfl rfl (Y_move (v := .tuple #[.agg #[vi r_3.Rows, vi r_3.Cols, .slice B2 r_3.Cells.length c2], .bool r_4]) rfl rfl) ?_
    refine sq 18 rfl rfl (Y_extract (v := .agg #[vi r_3.Rows, vi r_3.Cols, .slice B2 r_3.Cells.length c2]) rfl rfl rfl) ?_
    refine sq 19 rfl rfl (Y_extract (v := .bool r_4) rfl rfl rfl) ?_
    refine ss 4 rfl rfl (Ys_alloc (T := 32) (cs := [vi 0, vi 0, .slice none 0 0]) (m := 3) hS6 k_zero_32 rfl rfl rfl) ?_
    rintro _ w_5 ⟨b2, rfl, hS7⟩
    have hS7 : ST w0 [] _ [⟨some ⟨b, 0, none⟩, 32, [vi m.Rows, vi m.Cols, .slice B m.Cells.length c], 3⟩, ⟨some ⟨b1, 0, none⟩, 28, [.slice none 0 0], 1⟩, ⟨B2, 49, (r_3.Cells.flatMap enc_Dyadic), c2 * 5⟩, ⟨some ⟨b2, 0, none⟩, 32, [vi 0, vi 0, .slice none 0 0], 3⟩] [⟨B, (m.Cells.flatMap enc_Dyadic)⟩, ⟨(some ⟨0, 0, none⟩), [vi 1, vi 0, vi 0, vi 0, vi 2]⟩] := hS7
    refine ss0 rfl rfl (Ys_store (i := 3) (s := 3) (B := some ⟨b2, 0, none⟩) (T' := 32) (v := .agg #[vi r_3.Rows, vi r_3.Cols, .slice B2 r_3.Cells.length c2]) (vs := [vi r_3.Rows, vi r_3.Cols, .slice B2 r_3.Cells.length c2]) (k := 0) (cs' := [vi r_3.Rows, vi r_3.Cols, .slice B2 r_3.Cells.length c2]) hS7 k_sz_32_3 rfl rfl rfl rfl rfl rfl rfl (Nat.le_of_ble_eq_true rfl) rfl rfl) ?_
    rintro _ w_6 ⟨rfl, hS8⟩
    have hS8 : ST w0 [] _ [⟨some ⟨b, 0, none⟩, 32, [vi m.Rows, vi m.Cols, .slice B m.Cells.length c], 3⟩, ⟨some ⟨b1, 0, none⟩, 28, [.slice none 0 0], 1⟩, ⟨B2, 49, (r_3.Cells.flatMap enc_Dyadic), c2 * 5⟩, ⟨some ⟨b2, 0, none⟩, 32, [vi r_3.Rows, vi r_3.Cols, .slice B2 r_3.Cells.length c2], 3⟩] [⟨B, (m.Cells.flatMap enc_Dyadic)⟩, ⟨(some ⟨0, 0, none⟩), [vi 1, vi 0, vi 0, vi 0, vi 2]⟩] := hS8
    refine sq 5 rfl rfl (Y_assign (v := .bool r_4) rfl rfl) ?_
    refine rw_nil ?_
    refine cw_seq ?_
    refine cw_region ?_
    refine sq 20 rfl rfl (Y_buildS (zs := [.slice none 0 0]) (vs := []) (cs := [.slice none 0 0]) k_pl_28 k_zero_28 rfl mpn rfl) ?_
    refine ss 6 rfl rfl (Ys_alloc (T := 28) (cs := [.slice none 0 0]) (m := 1) hS8 k_zero_28 rfl rfl rfl) ?_
    rintro _ w_7 ⟨b3, rfl, hS9⟩
    have hS9 : ST w0 [] _ [⟨some ⟨b, 0, none⟩, 32, [vi m.Rows, vi m.Cols, .slice B m.Cells.length c], 3⟩, ⟨some ⟨b1, 0, none⟩, 28, [.slice none 0 0], 1⟩, ⟨B2, 49, (r_3.Cells.flatMap enc_Dyadic), c2 * 5⟩, ⟨some ⟨b2, 0, none⟩, 32, [vi r_3.Rows, vi r_3.Cols, .slice B2 r_3.Cells.length c2], 3⟩, ⟨some ⟨b3, 0, none⟩, 28, [.slice none 0 0], 1⟩] [⟨B, (m.Cells.flatMap enc_Dyadic)⟩, ⟨(some ⟨0, 0, none⟩), [vi 1, vi 0, vi 0, vi 0, vi 2]⟩] := hS9
    refine ss0 rfl rfl (Ys_store (i := 4) (s := 1) (B := some ⟨b3, 0, none⟩) (T' := 28) (v := .agg #[.slice none 0 0]) (vs := [.slice none 0 0]) (k := 0) (cs' := [.slice none 0 0]) hS9 k_sz_28_1 rfl rfl rfl rfl rfl rfl rfl (Nat.le_of_ble_eq_true rfl) rfl rfl) ?_
    rintro _ w_8 ⟨rfl, hS10⟩
    have hS10 : ST w0 [] _ [⟨some ⟨b, 0, none⟩, 32, [vi m.Rows, vi m.Cols, .slice B m.Cells.length c], 3⟩, ⟨some ⟨b1, 0, none⟩, 28, [.slice none 0 0], 1⟩, ⟨B2, 49, (r_3.Cells.flatMap enc_Dyadic), c2 * 5⟩, ⟨some ⟨b2, 0, none⟩, 32, [vi r_3.Rows, vi r_3.Cols, .slice B2 r_3.Cells.length c2], 3⟩, ⟨some ⟨b3, 0, none⟩, 28, [.slice none 0 0], 1⟩] [⟨B, (m.Cells.flatMap enc_Dyadic)⟩, ⟨(some ⟨0, 0, none⟩), [vi 1, vi 0, vi 0, vi 0, vi 2]⟩] := hS10
    refine rw_nil ?_
    refine cw_seq ?_
    refine cw_seq ?_
    refine cw_region ?_
    refine sq 21 rfl rfl (Y_move (v := vi 0) rfl rfl) ?_
    refine rw_nil ?_
    obtain ⟨z, hz, hF3⟩ := bind_inv hF2
    have hS12 := hS10.addNil 49
    refine cw_block ?_
    refine cw_loop (fun k f w => ∃ (i : Nat) (Cells : List TDyadic) (B3 : Option Addr) (c3 : Nat), FF f [(1, pt (some ⟨b, 0, none⟩) 0), (2, pt (some ⟨b1, 0, none⟩) 0), (4, pt (some ⟨b2, 0, none⟩) 0), (6, pt (some ⟨b3, 0, none⟩) 0), (21, vi (i : Int))] ∧ ST w0 [] w [⟨some ⟨b, 0, none⟩, 32, [vi m.Rows, vi m.Cols, .slice B m.Cells.length c], 3⟩, ⟨some ⟨b1, 0, none⟩, 28, [.slice none 0 0], 1⟩, ⟨some ⟨b2, 0, none⟩, 32, [vi r_3.Rows, vi r_3.Cols, .slice B2 r_3.Cells.length c2], 3⟩, ⟨B2, 49, (r_3.Cells.flatMap enc_Dyadic), c2 * 5⟩, ⟨some ⟨b3, 0, none⟩, 28, [.slice B3 Cells.length c3], 1⟩, ⟨B3, 49, (Cells.flatMap enc_Dyadic), c3 * 5⟩] [⟨B, (m.Cells.flatMap enc_Dyadic)⟩, ⟨(some ⟨0, 0, none⟩), [vi 1, vi 0, vi 0, vi 0, vi 2]⟩] ∧ i + k = 3 ∧ forX (F_impl_BlochOf_l1 m r_3) k i Cells = some z) 3 ⟨0, [], none, 0, (FF.cons rfl (FF.cons rfl (FF.cons rfl (FF.cons rfl (FF.cons rfl FF.nil))))), (hS12.sel [0, 1, 3, 2, 4, 5] rfl rfl), Nat.zero_add _, hz⟩ ?_
    rintro k_ f w ⟨i, Cells, B3, c3, hf, hS11, hik, hL⟩
    refine cw_seq ?_
    refine cw_region ?_
    refine sq 22 rfl rfl (Y_lt (k := .i64) (a := (i : Int)) (b := 3) rfl (hf.get 21 4 rfl) rfl) ?_
    refine rw_nil ?_
    refine cw_seq ?_
    refine cw_cond (b := (decide ((i : Int) < 3))) rfl (fun hlt => ?_) (fun hlt => ?_)
    · skip
      have hlt1 : i < 3 := by have h := of_decide_eq_true hlt; omega
      obtain ⟨k_1, rfl⟩ : ∃ k2, k_ = k2 + 1 := ⟨k_ - 1, by omega⟩
      obtain ⟨y, hb1, hL1⟩ := forX_go hL
      unfold F_impl_BlochOf_l1 at hb1
      refine cw_skip ?_
      refine cw_seq ?_
      refine cw_block ?_
      refine cw_seq ?_
      refine cw_region ?_
      refine sq 23 rfl rfl (Y_move (v := vi (i : Int)) rfl (hf.get 21 4 rfl)) ?_
      refine sq 7 rfl rfl (Y_assign (v := vi (i : Int)) rfl rfl) ?_
      refine rw_nil ?_
      refine cw_seq ?_
      refine cw_region ?_
      refine sq 24 rfl rfl (Y_move (v := vi 0) rfl rfl) ?_
      refine rw_nil ?_
      obtain ⟨z1, hz1, hF4⟩ := bind_inv hb1
      refine cw_block ?_
      refine cw_loop (fun k f w => ∃ (i1 : Nat) (Cells1 : List TDyadic) (B4 : Option Addr) (c4 : Nat), FF f [(1, pt (some ⟨b, 0, none⟩) 0), (2, pt (some ⟨b1, 0, none⟩) 0), (4, pt (some ⟨b2, 0, none⟩) 0), (6, pt (some ⟨b3, 0, none⟩) 0), (7, vi (i : Int)), (21, vi (i : Int)), (24, vi (i1 : Int))] ∧ ST w0 [] w [⟨some ⟨b, 0, none⟩, 32, [vi m.Rows, vi m.Cols, .slice B m.Cells.length c], 3⟩, ⟨some ⟨b1, 0, none⟩, 28, [.slice none 0 0], 1⟩, ⟨some ⟨b2, 0, none⟩, 32, [vi r_3.Rows, vi r_3.Cols, .slice B2 r_3.Cells.length c2], 3⟩, ⟨B2, 49, (r_3.Cells.flatMap enc_Dyadic), c2 * 5⟩, ⟨some ⟨b3, 0, none⟩, 28, [.slice B4 Cells1.length c4], 1⟩, ⟨B4, 49, (Cells1.flatMap enc_Dyadic), c4 * 5⟩] [⟨B, (m.Cells.flatMap enc_Dyadic)⟩, ⟨(some ⟨0, 0, none⟩), [vi 1, vi 0, vi 0, vi 0, vi 2]⟩] ∧ i1 + k = 3 ∧ forX (F_impl_BlochOf_l2 m r_3 i) k i1 Cells1 = some z1) 3 ⟨0, Cells, B3, c3, (FF.cons (hf.get 1 0 rfl) (FF.cons (hf.get 2 1 rfl) (FF.cons (hf.get 4 2 rfl) (FF.cons (hf.get 6 3 rfl) (FF.cons rfl (FF.cons (hf.get 21 4 rfl) (FF.cons rfl FF.nil))))))), (hS11.sel [0, 1, 2, 3, 4, 5] rfl rfl), Nat.zero_add _, hz1⟩ ?_
      rintro k_2 f w ⟨i1, Cells1, B4, c4, hf1, hS13, hik1, hL2⟩
      refine cw_seq ?_
      refine cw_region ?_
      refine sq 25 rfl rfl (Y_lt (k := .i64) (a := (i1 : Int)) (b := 3) rfl (hf1.get 24 6 rfl) rfl) ?_
      refine rw_nil ?_
      refine cw_seq ?_
      refine cw_cond (b := (decide ((i1 : Int) < 3))) rfl (fun hlt2 => ?_) (fun hlt2 => ?_)
      · skip
        have hlt3 : i1 < 3 := by have h := of_decide_eq_true hlt2; omega
        obtain ⟨k_3, rfl⟩ : ∃ k2, k_2 = k2 + 1 := ⟨k_2 - 1, by omega⟩
        obtain ⟨y1, hb2, hL3⟩ := forX_go hL2
        unfold F_impl_BlochOf_l2 at hb2
        refine cw_skip ?_
        refine cw_seq ?_
        refine cw_block ?_
        refine cw_seq ?_
        refine cw_region ?_
        refine sq 26 rfl rfl (Y_move (v := vi (i1 : Int)) rfl (hf1.get 24 6 rfl)) ?_
        refine sq 8 rfl rfl (Y_assign (v := vi (i1 : Int)) rfl rfl) ?_
        refine rw_nil ?_
        refine cw_seq ?_
        refine cw_region ?_
        refine sq 28 rfl rfl (Y_loadA (B := some ⟨b, 0, none⟩) (i := 0) (cs := [vi m.Rows, vi m.Cols, .slice B m.Cells.length c]) (vs := [vi m.Rows, vi m.Cols, .slice B m.Cells.length c]) k_ag_32 k_sz_32_3 rfl (hf1.get 1 0 rfl) (hS13.cf (i := 0) rfl) rfl rfl) ?_
        refine sq 29 rfl rfl (Y_loadA (B := some ⟨b2, 0, none⟩) (i := 0) (cs := [vi r_3.Rows, vi r_3.Cols, .slice B2 r_3.Cells.length c2]) (vs := [vi r_3.Rows, vi r_3.Cols, .slice B2 r_3.Cells.length c2]) k_ag_32 k_sz_32_3 rfl (hf1.get 4 2 rfl) (hS13.cf (i := 2) rfl) rfl rfl) ?_
        refine sq 30 rfl rfl (Y_move (v := vi (i : Int)) rfl (hf1.get 7 4 rfl)) ?_
        refine sq 31 rfl rfl (Y_move (v := vi (i1 : Int)) rfl rfl) ?_
        obtain ⟨⟨r_5, r_6⟩, hc2, hb2⟩ := bind_inv hb2
        refine sc 32 rfl rfl (Yc_func (g := 22) (vs := [.agg #[vi m.Rows, vi m.Cols, .slice B m.Cells.length c], .agg #[vi r_3.Rows, vi r_3.Cols, .slice B2 r_3.Cells.length c2], vi (i : Int), vi (i1 : Int)]) k_call_22 rfl (mc rfl (mc rfl (mc rfl (mc rfl mn)))) (c_impl_blochCell m r_3 (i : Int) (i1 : Int) B c m.Cells.length B2 c2 r_3.Cells.length _ rfl rfl (hS13.inn0 [(true, 0), (false, 3), (true, 1)] rfl) hc2)) ?_
        rintro _ w_9 ⟨rfl, hd2⟩
        have hS14 := hS13.out00 hd2
        have hS14 : ST w0 [] _ [⟨some ⟨b, 0, none⟩, 32, [vi m.Rows, vi m.Cols, .slice B m.Cells.length c], 3⟩, ⟨some ⟨b1, 0, none⟩, 28, [.slice none 0 0], 1⟩, ⟨some ⟨b2, 0, none⟩, 32, [vi r_3.Rows, vi r_3.Cols, .slice B2 r_3.Cells.length c2], 3⟩, ⟨B2, 49, (r_3.Cells.flatMap enc_Dyadic), c2 * 5⟩, ⟨some ⟨b3, 0, none⟩, 28, [.slice B4 Cells1.length c4], 1⟩, ⟨B4, 49, (Cells1.flatMap enc_Dyadic), c4 * 5⟩] [⟨B, (m.Cells.flatMap enc_Dyadic)⟩, ⟨(some ⟨0, 0, none⟩), [vi 1, vi 0, vi 0, vi 0, vi 2]⟩] := hS14
        refine sq 27 rfl rfl (Y_move (v := .tuple #[.agg #[vi r_5.Num.A, vi r_5.Num.B, vi r_5.Num.C, vi r_5.Num.D, vi r_5.Exp], .bool r_6]) rfl rfl) ?_
        refine sq 33 rfl rfl (Y_extract (v := .agg #[vi r_5.Num.A, vi r_5.Num.B, vi r_5.Num.C, vi r_5.Num.D, vi r_5.Exp]) rfl rfl rfl) ?_
        refine sq 34 rfl rfl (Y_extract (v := .bool r_6) rfl rfl rfl) ?_
        refine ss 9 rfl rfl (Ys_alloc (T := 49) (cs := [vi 0, vi 0, vi 0, vi 0, vi 0]) (m := 5) hS14 k_zero_49 rfl rfl rfl) ?_
        rintro _ w_10 ⟨b4, rfl, hS15⟩
        have hS15 : ST w0 [] _ [⟨some ⟨b, 0, none⟩, 32, [vi m.Rows, vi m.Cols, .slice B m.Cells.length c], 3⟩, ⟨some ⟨b1, 0, none⟩, 28, [.slice none 0 0], 1⟩, ⟨some ⟨b2, 0, none⟩, 32, [vi r_3.Rows, vi r_3.Cols, .slice B2 r_3.Cells.length c2], 3⟩, ⟨B2, 49, (r_3.Cells.flatMap enc_Dyadic), c2 * 5⟩, ⟨some ⟨b3, 0, none⟩, 28, [.slice B4 Cells1.length c4], 1⟩, ⟨B4, 49, (Cells1.flatMap enc_Dyadic), c4 * 5⟩, ⟨some ⟨b4, 0, none⟩, 49, [vi 0, vi 0, vi 0, vi 0, vi 0], 5⟩] [⟨B, (m.Cells.flatMap enc_Dyadic)⟩, ⟨(some ⟨0, 0, none⟩), [vi 1, vi 0, vi 0, vi 0, vi 2]⟩] := hS15
        refine ss0 rfl rfl (Ys_store (i := 6) (s := 5) (B := some ⟨b4, 0, none⟩) (T' := 49) (v := .agg #[vi r_5.Num.A, vi r_5.Num.B, vi r_5.Num.C, vi r_5.Num.D, vi r_5.Exp]) (vs := [vi r_5.Num.A, vi r_5.Num.B, vi r_5.Num.C, vi r_5.Num.D, vi r_5.Exp]) (k := 0) (cs' := [vi r_5.Num.A, vi r_5.Num.B, vi r_5.Num.C, vi r_5.Num.D, vi r_5.Exp]) hS15 k_sz_49_5 rfl rfl rfl rfl rfl rfl rfl (Nat.le_of_ble_eq_true rfl) rfl rfl) ?_
        rintro _ w_11 ⟨rfl, hS16⟩
        have hS16 : ST w0 [] _ [⟨some ⟨b, 0, none⟩, 32, [vi m.Rows, vi m.Cols, .slice B m.Cells.length c], 3⟩, ⟨some ⟨b1, 0, none⟩, 28, [.slice none 0 0], 1⟩, ⟨some ⟨b2, 0, none⟩, 32, [vi r_3.Rows, vi r_3.Cols, .slice B2 r_3.Cells.length c2], 3⟩, ⟨B2, 49, (r_3.Cells.flatMap enc_Dyadic), c2 * 5⟩, ⟨some ⟨b3, 0, none⟩, 28, [.slice B4 Cells1.length c4], 1⟩, ⟨B4, 49, (Cells1.flatMap enc_Dyadic), c4 * 5⟩, ⟨some ⟨b4, 0, none⟩, 49, [vi r_5.Num.A, vi r_5.Num.B, vi r_5.Num.C, vi r_5.Num.D, vi r_5.Exp], 5⟩] [⟨B, (m.Cells.flatMap enc_Dyadic)⟩, ⟨(some ⟨0, 0, none⟩), [vi 1, vi 0, vi 0, vi 0, vi 2]⟩] := hS16
        refine sq 10 rfl rfl (Y_assign (v := .bool r_6) rfl rfl) ?_
        refine rw_nil ?_
        refine cw_seq ?_
        refine cw_seq ?_
        refine cw_region ?_
        refine sq 35 rfl rfl (Y_move (v := .bool r_6) rfl rfl) ?_
        refine sq 36 rfl rfl (Y_not (p := r_6) rfl rfl) ?_
        refine rw_nil ?_
        refine cw_cond (b := (!r_6)) rfl (fun hb3 => ?_) (fun hb3 => ?_)
        · skip
          have hF5 := ct hb2 hb3
          refine cw_seq ?_
          refine cw_region ?_
          refine sq 37 rfl rfl (Y_buildS (zs := [.slice none 0 0]) (vs := []) (cs := [.slice none 0 0]) k_pl_28 k_zero_28 rfl mpn rfl) ?_
          refine ss0 rfl rfl (Ys_store (i := 1) (s := 1) (B := some ⟨b1, 0, none⟩) (T' := 28) (v := .agg #[.slice none 0 0]) (vs := [.slice none 0 0]) (k := 0) (cs' := [.slice none 0 0]) hS16 k_sz_28_1 rfl (hf1.get 2 1 rfl) rfl rfl rfl rfl rfl (Nat.le_of_ble_eq_true rfl) rfl rfl) ?_
          rintro _ w_12 ⟨rfl, hS17⟩
          have hS17 : ST w0 [] _ [⟨some ⟨b, 0, none⟩, 32, [vi m.Rows, vi m.Cols, .slice B m.Cells.length c], 3⟩, ⟨some ⟨b1, 0, none⟩, 28, [.slice none 0 0], 1⟩, ⟨some ⟨b2, 0, none⟩, 32, [vi r_3.Rows, vi r_3.Cols, .slice B2 r_3.Cells.length c2], 3⟩, ⟨B2, 49, (r_3.Cells.flatMap enc_Dyadic), c2 * 5⟩, ⟨some ⟨b3, 0, none⟩, 28, [.slice B4 Cells1.length c4], 1⟩, ⟨B4, 49, (Cells1.flatMap enc_Dyadic), c4 * 5⟩, ⟨some ⟨b4, 0, none⟩, 49, [vi r_5.Num.A, vi r_5.Num.B, vi r_5.Num.C, vi r_5.Num.D, vi r_5.Exp], 5⟩] [⟨B, (m.Cells.flatMap enc_Dyadic)⟩, ⟨(some ⟨0, 0, none⟩), [vi 1, vi 0, vi 0, vi 0, vi 2]⟩] := hS17
          refine sq 3 rfl rfl (Y_assign (v := .bool false) rfl rfl) ?_
          refine rw_nil ?_
          refine cw_ret ?_
          have hS18 := hS17.addNil 49
          obtain rfl := some_inj hF5
          obtain rfl := some_inj hL3
          obtain rfl := some_inj hF4
          obtain rfl := some_inj hL1
          obtain ⟨rfl, rfl⟩ := pr2 (some_inj hF3)
          exact ret2 Tryd.results8 (v1 := .agg #[.slice none 0 0]) (resAt_cellA (B := some ⟨b1, 0, none⟩) (i := 0) (cs := [.slice none 0 0]) (vs := [.slice none 0 0]) (hf1.get 2 1 rfl) k_ag_28 k_sz_28_1 (hS18.cf (i := 1) rfl) rfl rfl) (v2 := .bool false) (resAt_tmp rfl) ⟨none, 0, rfl, (ST.subR (R' := []) (hS18.sel [7] rfl rfl) (fun _ h => by cases h))⟩
        · skip
          have hF6 := cf' hb2 hb3
          refine cw_skip ?_
          refine cw_region ?_
          refine sq 38 rfl rfl (Y_fieldAddr (B := some ⟨b3, 0, none⟩) (i := 0) (s := 0) k_fd_28_0_0_26 k_sz_26_1 rfl (hf1.get 6 3 rfl)) ?_
          refine sq 39 rfl rfl (Y_load1 (B := some ⟨b3, 0, none⟩) (i := 0) (cs := [.slice B4 Cells1.length c4]) (v := .slice B4 Cells1.length c4) k_sc_26 rfl rfl (hS16.cf (i := 4) rfl) rfl) ?_
          refine sq 40 rfl rfl (Y_loadA (B := some ⟨b4, 0, none⟩) (i := 0) (cs := [vi r_5.Num.A, vi r_5.Num.B, vi r_5.Num.C, vi r_5.Num.D, vi r_5.Exp]) (vs := [vi r_5.Num.A, vi r_5.Num.B, vi r_5.Num.C, vi r_5.Num.D, vi r_5.Exp]) k_ag_49 k_sz_49_5 rfl rfl (hS16.cf (i := 6) rfl) rfl rfl) ?_
          refine ss 41 rfl rfl (Ys_bslice (s := 5) (len := 1) (vs := [(0, .agg #[vi r_5.Num.A, vi r_5.Num.B, vi r_5.Num.C, vi r_5.Num.D, vi r_5.Exp])]) (cs := [vi r_5.Num.A, vi r_5.Num.B, vi r_5.Num.C, vi r_5.Num.D, vi r_5.Exp]) (zs := [vi 0, vi 0, vi 0, vi 0, vi 0]) (m := 5) hS16 k_sl_26_49 k_sz_49_5 k_zc_49 rfl (mpc rfl mpn) rfl rfl rfl (by kernel_rfl) (by kernel_rfl) rfl) ?_
          rintro _ w_13 ⟨b5, rfl, hS19⟩
          have hS19 : ST w0 [] _ [⟨some ⟨b, 0, none⟩, 32, [vi m.Rows, vi m.Cols, .slice B m.Cells.length c], 3⟩, ⟨some ⟨b1, 0, none⟩, 28, [.slice none 0 0], 1⟩, ⟨some ⟨b2, 0, none⟩, 32, [vi r_3.Rows, vi r_3.Cols, .slice B2 r_3.Cells.length c2], 3⟩, ⟨B2, 49, (r_3.Cells.flatMap enc_Dyadic), c2 * 5⟩, ⟨some ⟨b3, 0, none⟩, 28, [.slice B4 Cells1.length c4], 1⟩, ⟨B4, 49, (Cells1.flatMap enc_Dyadic), c4 * 5⟩, ⟨some ⟨b4, 0, none⟩, 49, [vi r_5.Num.A, vi r_5.Num.B, vi r_5.Num.C, vi r_5.Num.D, vi r_5.Exp], 5⟩, ⟨some ⟨b5, 0, none⟩, 49, ([r_5].flatMap enc_Dyadic), 1 * 5⟩] [⟨B, (m.Cells.flatMap enc_Dyadic)⟩, ⟨(some ⟨0, 0, none⟩), [vi 1, vi 0, vi 0, vi 0, vi 2]⟩] := hS19
          obtain ⟨hap, hF6⟩ := chk_inv hF6
          refine ss 42 rfl rfl (Ys_append (s := 5) (by' := 40) (i := 5) (nn := Cells1.length) (c := c4) (k := 1) (len := (Cells1 ++ [r_5]).length) (B := B4) (xs := ([r_5].flatMap enc_Dyadic)) (cs' := ((Cells1 ++ [r_5]).flatMap enc_Dyadic)) hS19 k_sl_26_49 k_sz_49_5 k_by_49_40 k_zero_49 rfl (by decide) rfl rfl rfl rfl (fm_lenn (l := Cells1) enc_Dyadic_len rfl) rfl (hS19.cf (i := 7) rfl) (fm_lenn (l := [r_5]) enc_Dyadic_len rfl) (fm_one' (enc := enc_Dyadic) enc_Dyadic_one [r_5]) (by have := hap; omega) (by have := hap; simp only [maxLen]; omega) (fm_app _ _) (app_len (l := Cells1) (l' := [r_5]) rfl rfl)) ?_
          rintro _ w_14 ⟨B5, c5, rfl, hS20⟩
          have hS20 : ST w0 [] _ [⟨some ⟨b, 0, none⟩, 32, [vi m.Rows, vi m.Cols, .slice B m.Cells.length c], 3⟩, ⟨some ⟨b1, 0, none⟩, 28, [.slice none 0 0], 1⟩, ⟨some ⟨b2, 0, none⟩, 32, [vi r_3.Rows, vi r_3.Cols, .slice B2 r_3.Cells.length c2], 3⟩, ⟨B2, 49, (r_3.Cells.flatMap enc_Dyadic), c2 * 5⟩, ⟨some ⟨b3, 0, none⟩, 28, [.slice B4 Cells1.length c4], 1⟩, ⟨B5, 49, ((Cells1 ++ [r_5]).flatMap enc_Dyadic), c5 * 5⟩, ⟨some ⟨b4, 0, none⟩, 49, [vi r_5.Num.A, vi r_5.Num.B, vi r_5.Num.C, vi r_5.Num.D, vi r_5.Exp], 5⟩, ⟨some ⟨b5, 0, none⟩, 49, ([r_5].flatMap enc_Dyadic), 1 * 5⟩] [⟨B, (m.Cells.flatMap enc_Dyadic)⟩, ⟨(some ⟨0, 0, none⟩), [vi 1, vi 0, vi 0, vi 0, vi 2]⟩] := hS20
          refine sq 43 rfl rfl (Y_fieldAddr (B := some ⟨b3, 0, none⟩) (i := 0) (s := 0) k_fd_28_0_0_26 k_sz_26_1 rfl (hf1.get 6 3 rfl)) ?_
          refine ss0 rfl rfl (Ys_store (i := 4) (s := 1) (B := some ⟨b3, 0, none⟩) (T' := 28) (v := .slice B5 ((Cells1 ++ [r_5]).length) c5) (vs := [.slice B5 ((Cells1 ++ [r_5]).length) c5]) (k := 0) (cs' := [.slice B5 ((Cells1 ++ [r_5]).length) c5]) hS20 k_sz_26_1 rfl rfl rfl rfl rfl rfl rfl (Nat.le_of_ble_eq_true rfl) rfl rfl) ?_
          rintro _ w_15 ⟨rfl, hS21⟩
          have hS21 : ST w0 [] _ [⟨some ⟨b, 0, none⟩, 32, [vi m.Rows, vi m.Cols, .slice B m.Cells.length c], 3⟩, ⟨some ⟨b1, 0, none⟩, 28, [.slice none 0 0], 1⟩, ⟨some ⟨b2, 0, none⟩, 32, [vi r_3.Rows, vi r_3.Cols, .slice B2 r_3.Cells.length c2], 3⟩, ⟨B2, 49, (r_3.Cells.flatMap enc_Dyadic), c2 * 5⟩, ⟨some ⟨b3, 0, none⟩, 28, [.slice B5 ((Cells1 ++ [r_5]).length) c5], 1⟩, ⟨B5, 49, ((Cells1 ++ [r_5]).flatMap enc_Dyadic), c5 * 5⟩, ⟨some ⟨b4, 0, none⟩, 49, [vi r_5.Num.A, vi r_5.Num.B, vi r_5.Num.C, vi r_5.Num.D, vi r_5.Exp], 5⟩, ⟨some ⟨b5, 0, none⟩, 49, ([r_5].flatMap enc_Dyadic), 1 * 5⟩] [⟨B, (m.Cells.flatMap enc_Dyadic)⟩, ⟨(some ⟨0, 0, none⟩), [vi 1, vi 0, vi 0, vi 0, vi 2]⟩] := hS21
          refine rw_nil ?_
          refine cw_region ?_
          refine sq 44 rfl rfl (Y_add (k := .i64) (a := (i1 : Int)) (b := 1) rfl (hf1.get 24 6 rfl) rfl) ?_
          refine sq 24 rfl rfl (Y_move (v := vi (i64.wrap ((i1 : Int) + 1))) rfl rfl) ?_
          refine rw_nil ?_
          obtain rfl := some_inj hF6
          exact ⟨k_3, Nat.lt_succ_self _, i1 + 1, (Cells1 ++ [r_5]), B5, c5, (FF.cons (hf1.get 1 0 rfl) (FF.cons (hf1.get 2 1 rfl) (FF.cons (hf1.get 4 2 rfl) (FF.cons (hf1.get 6 3 rfl) (FF.cons (hf1.get 7 4 rfl) (FF.cons (hf1.get 21 5 rfl) (FF.cons (congrArg (Value.int .i64) (wr_succ hlt3 (show 3 ≤ 9223372036854775807 by decide))) FF.nil))))))), (hS21.sel [0, 1, 2, 3, 4, 5] rfl rfl), (by omega), hL3⟩
      · skip
        obtain rfl : k_2 = 0 := by have h := of_decide_eq_false hlt2; omega
        refine cw_exit rfl ?_
        obtain rfl := some_inj hL2
        refine cw_region ?_
        refine sq 45 rfl rfl (Y_add (k := .i64) (a := (i : Int)) (b := 1) rfl (hf1.get 21 5 rfl) rfl) ?_
        refine sq 21 rfl rfl (Y_move (v := vi (i64.wrap ((i : Int) + 1))) rfl rfl) ?_
        refine rw_nil ?_
        obtain rfl := some_inj hF4
        exact ⟨k_1, Nat.lt_succ_self _, i + 1, Cells1, B4, c4, (FF.cons (hf1.get 1 0 rfl) (FF.cons (hf1.get 2 1 rfl) (FF.cons (hf1.get 4 2 rfl) (FF.cons (hf1.get 6 3 rfl) (FF.cons (congrArg (Value.int .i64) (wr_succ hlt1 (show 3 ≤ 9223372036854775807 by decide))) FF.nil))))), (hS13.sel [0, 1, 2, 3, 4, 5] rfl rfl), (by omega), hL1⟩
    · skip
      obtain rfl : k_ = 0 := by have h := of_decide_eq_false hlt; omega
      refine cw_exit rfl ?_
      obtain rfl := some_inj hL
      refine cw_seq ?_
      refine cw_region ?_
      refine sq 46 rfl rfl (Y_loadA (B := some ⟨b3, 0, none⟩) (i := 0) (cs := [.slice B3 Cells.length c3]) (vs := [.slice B3 Cells.length c3]) k_ag_28 k_sz_28_1 rfl (hf.get 6 3 rfl) (hS11.cf (i := 4) rfl) rfl rfl) ?_
      refine ss0 rfl rfl (Ys_store (i := 1) (s := 1) (B := some ⟨b1, 0, none⟩) (T' := 28) (v := .agg #[.slice B3 Cells.length c3]) (vs := [.slice B3 Cells.length c3]) (k := 0) (cs' := [.slice B3 Cells.length c3]) hS11 k_sz_28_1 rfl (hf.get 2 1 rfl) rfl rfl rfl rfl rfl (Nat.le_of_ble_eq_true rfl) rfl rfl) ?_
      rintro _ w_16 ⟨rfl, hS22⟩
      have hS22 : ST w0 [] _ [⟨some ⟨b, 0, none⟩, 32, [vi m.Rows, vi m.Cols, .slice B m.Cells.length c], 3⟩, ⟨some ⟨b1, 0, none⟩, 28, [.slice B3 Cells.length c3], 1⟩, ⟨some ⟨b2, 0, none⟩, 32, [vi r_3.Rows, vi r_3.Cols, .slice B2 r_3.Cells.length c2], 3⟩, ⟨B2, 49, (r_3.Cells.flatMap enc_Dyadic), c2 * 5⟩, ⟨some ⟨b3, 0, none⟩, 28, [.slice B3 Cells.length c3], 1⟩, ⟨B3, 49, (Cells.flatMap enc_Dyadic), c3 * 5⟩] [⟨B, (m.Cells.flatMap enc_Dyadic)⟩, ⟨(some ⟨0, 0, none⟩), [vi 1, vi 0, vi 0, vi 0, vi 2]⟩] := hS22
      refine sq 3 rfl rfl (Y_assign (v := .bool true) rfl rfl) ?_
      refine rw_nil ?_
      refine cw_ret ?_
      obtain ⟨rfl, rfl⟩ := pr2 (some_inj hF3)
      exact ret2 Tryd.results8 (v1 := .agg #[.slice B3 Cells.length c3]) (resAt_cellA (B := some ⟨b1, 0, none⟩) (i := 0) (cs := [.slice B3 Cells.length c3]) (vs := [.slice B3 Cells.length c3]) (hf.get 2 1 rfl) k_ag_28 k_sz_28_1 (hS22.cf (i := 1) rfl) rfl rfl) (v2 := .bool true) (resAt_tmp rfl) ⟨B3, c3, rfl, (ST.subR (R' := []) (hS22.sel [5] rfl rfl) (fun _ h => by cases h))⟩

theorem c_impl_blochExp (b : TBloch) (B : Option Addr) (c n : Nat) (w0 : World) (hn : b.Cells.length = n) (hS : ST w0 [] w0 [] [⟨B, (b.Cells.flatMap enc_Dyadic)⟩]) {r_ : Int} (hF : F_impl_blochExp b = some r_) :
    CV Tryd.prog 27 #[.agg #[.slice B n c]] w0 (fun v w' => v = vi r_ ∧ ST w0 [] w' [] []) := by
  subst hn
  unfold F_impl_blochExp at hF
  refine cv_of_cw 19 Tryd.func27 rfl Tryd.ntmps27 rfl ?_
  refine cw_seq ?_
  refine cw_region ?_
  refine ss 1 rfl rfl (Ys_box (T := 28) (v := .agg #[.slice B b.Cells.length c]) (cs := [.slice B b.Cells.length c]) (m := 1) hS rfl rfl rfl rfl) ?_
  rintro _ w_ ⟨b1, rfl, hS1⟩
  refine sq 2 rfl rfl (Y_assign (v := vi 0) rfl rfl) ?_
  refine rw_nil ?_
  refine cw_seq ?_
  refine cw_region ?_
  refine sq 3 rfl rfl (Y_assign (v := vi 0) rfl rfl) ?_
  refine rw_nil ?_
  refine cw_seq ?_
  refine cw_seq ?_
  refine cw_region ?_
  refine sq 6 rfl rfl (Y_fieldAddr (B := some ⟨b1, 0, none⟩) (i := 0) (s := 0) k_fd_28_0_0_26 k_sz_26_1 rfl rfl) ?_
  refine sq 7 rfl rfl (Y_load1 (B := some ⟨b1, 0, none⟩) (i := 0) (cs := [.slice B b.Cells.length c]) (v := .slice B b.Cells.length c) k_sc_26 rfl rfl (hS1.cf (i := 0) rfl) rfl) ?_
  refine sq 8 rfl rfl (Y_len (B := B) (m := b.Cells.length) (c := c) k_sl_26_49 rfl rfl) ?_
  refine sq 9 rfl rfl (Y_move (v := vi 0) rfl rfl) ?_
  refine rw_nil ?_
  obtain ⟨hN, hF⟩ := chk_inv hF
  obtain ⟨z, hz, hF1⟩ := bind_inv hF
  refine cw_block ?_
  refine cw_loop (fun k f w => ∃ (i : Nat) (most : Int), FF f [(3, vi most), (7, .slice B b.Cells.length c), (8, vi (b.Cells.length : Int)), (9, vi (i : Int))] ∧ ST w0 [] w [] [⟨B, (b.Cells.flatMap enc_Dyadic)⟩] ∧ i + k = b.Cells.length ∧ forN (F_impl_blochExp_l1 b) k i most = some z) b.Cells.length ⟨0, 0, (FF.cons rfl (FF.cons rfl (FF.cons rfl (FF.cons rfl FF.nil)))), (hS1.sel [] rfl rfl), Nat.zero_add _, hz⟩ ?_
  rintro k_ f w ⟨i, most, hf, hS2, hik, hL⟩
  refine cw_seq ?_
  refine cw_region ?_
  refine sq 10 rfl rfl (Y_lt (k := .i64) (a := (i : Int)) (b := (b.Cells.length : Int)) rfl (hf.get 9 3 rfl) (hf.get 8 2 rfl)) ?_
  refine rw_nil ?_
  refine cw_seq ?_
  refine cw_cond (b := (decide ((i : Int) < (b.Cells.length : Int)))) rfl (fun hlt => ?_) (fun hlt => ?_)
  · skip
    have hlt1 : i < b.Cells.length := by have h := of_decide_eq_true hlt; omega
    obtain ⟨k_1, rfl⟩ : ∃ k2, k_ = k2 + 1 := ⟨k_ - 1, by omega⟩
    obtain ⟨y, hb, hL1⟩ := forN_go hL
    unfold F_impl_blochExp_l1 at hb
    refine cw_skip ?_
    refine cw_seq ?_
    refine cw_block ?_
    refine cw_seq ?_
    refine cw_region ?_
    obtain ⟨x, hx, hb⟩ := bind_inv hb
    refine sq 11 rfl rfl (Y_index (B := B) (m := b.Cells.length) (c := c) (k := .i64) (i := (i : Int)) k_sl_26_49 k_sz_49_5 rfl (hf.get 7 1 rfl) (hf.get 9 3 rfl) (gi_isSome enc_Dyadic_len rfl (hS2.rf (i := 0) rfl) hx) (getI_nn hx) (getI_ltI hx rfl)) ?_
    refine sq 12 rfl rfl (Y_loadA (B := B) (i := (i : Int).toNat * 5) (cs := (b.Cells.flatMap enc_Dyadic)) (vs := [vi x.Num.A, vi x.Num.B, vi x.Num.C, vi x.Num.D, vi x.Exp]) k_ag_49 k_sz_49_5 rfl rfl (hS2.rf (i := 0) rfl) (enc_Dyadic_len x) (gi_seg enc_Dyadic_len hx)) ?_
    refine ss 5 rfl rfl (Ys_alloc (T := 49) (cs := [vi 0, vi 0, vi 0, vi 0, vi 0]) (m := 5) hS2 k_zero_49 rfl rfl rfl) ?_
    rintro _ w_1 ⟨b2, rfl, hS3⟩
    refine ss0 rfl rfl (Ys_store (i := 0) (s := 5) (B := some ⟨b2, 0, none⟩) (T' := 49) (v := .agg #[vi x.Num.A, vi x.Num.B, vi x.Num.C, vi x.Num.D, vi x.Exp]) (vs := [vi x.Num.A, vi x.Num.B, vi x.Num.C, vi x.Num.D, vi x.Exp]) (k := 0) (cs' := [vi x.Num.A, vi x.Num.B, vi x.Num.C, vi x.Num.D, vi x.Exp]) hS3 k_sz_49_5 rfl rfl rfl rfl rfl rfl rfl (Nat.le_of_ble_eq_true rfl) rfl rfl) ?_
    rintro _ w_2 ⟨rfl, hS4⟩
    refine rw_nil ?_
    refine cw_region ?_
    refine sq 13 rfl rfl (Y_move (v := vi most) rfl (hf.get 3 0 rfl)) ?_
    refine sq 14 rfl rfl (Y_fieldAddr (B := some ⟨b2, 0, none⟩) (i := 0) (s := 0) k_fd_49_1_4_3 k_sz_3_1 rfl rfl) ?_
    refine sq 15 rfl rfl (Y_load1 (B := some ⟨b2, 0, none⟩) (i := 4) (cs := [vi x.Num.A, vi x.Num.B, vi x.Num.C, vi x.Num.D, vi x.Exp]) (v := vi x.Exp) k_sc_3 rfl rfl (hS4.cf (i := 0) rfl) rfl) ?_
    refine sq 16 rfl rfl (Y_max2 (k := .i64) (a := most) (b := x.Exp) rfl rfl rfl) ?_
    refine sq 3 rfl rfl (Y_assign (v := vi (if most < x.Exp then x.Exp else most)) rfl rfl) ?_
    refine rw_nil ?_
    refine cw_region ?_
    refine sq 17 rfl rfl (Y_add (k := .i64) (a := (i : Int)) (b := 1) rfl (hf.get 9 3 rfl) rfl) ?_
    refine sq 9 rfl rfl (Y_move (v := vi (i64.wrap ((i : Int) + 1))) rfl rfl) ?_
    refine rw_nil ?_
    obtain rfl := some_inj hb
    exact ⟨k_1, Nat.lt_succ_self _, i + 1, (if most < x.Exp then x.Exp else most), (FF.cons rfl (FF.cons (hf.get 7 1 rfl) (FF.cons (hf.get 8 2 rfl) (FF.cons (congrArg (Value.int .i64) (wr_succ hlt1 hN)) FF.nil)))), (hS4.sel [] rfl rfl), (by omega), hL1⟩
  · skip
    obtain rfl : k_ = 0 := by have h := of_decide_eq_false hlt; omega
    refine cw_exit rfl ?_
    obtain rfl := some_inj hL
    refine cw_seq ?_
    refine cw_region ?_
    refine sq 18 rfl rfl (Y_move (v := vi most) rfl (hf.get 3 0 rfl)) ?_
    refine sq 2 rfl rfl (Y_assign (v := vi most) rfl rfl) ?_
    refine rw_nil ?_
    refine cw_ret ?_
    obtain rfl := some_inj hF1
    exact ret1 Tryd.results27 (v1 := vi most) (resAt_tmp rfl) ⟨rfl, (ST.subR (R' := []) (hS2.sel [] rfl rfl) (fun _ h => by cases h))⟩

theorem c_impl_LeastTCount (m : TMatrix) (B : Option Addr) (c n : Nat) (w0 : World) (hn : m.Cells.length = n) (hS : ST w0 [] w0 [] [⟨B, (m.Cells.flatMap enc_Dyadic)⟩, ⟨(some ⟨0, 0, none⟩), [vi 1, vi 0, vi 0, vi 0, vi 2]⟩]) {r_ : Int} {r_1 : Bool} (hF : F_impl_LeastTCount m = some (r_, r_1)) :
    CV Tryd.prog 15 #[.agg #[vi m.Rows, vi m.Cols, .slice B n c]] w0 (fun v w' => v = .tuple #[vi r_, .bool r_1] ∧ ST w0 [] w' [] []) := by
  subst hn
  unfold F_impl_LeastTCount at hF
  refine cv_of_cw 15 Tryd.func15 rfl Tryd.ntmps15 rfl ?_
  refine cw_seq ?_
  refine cw_region ?_
  refine ss 1 rfl rfl (Ys_box (T := 32) (v := .agg #[vi m.Rows, vi m.Cols, .slice B m.Cells.length c]) (cs := [vi m.Rows, vi m.Cols, .slice B m.Cells.length c]) (m := 3) hS rfl rfl rfl rfl) ?_
  rintro _ w_ ⟨b, rfl, hS1⟩
  refine sq 2 rfl rfl (Y_assign (v := vi 0) rfl rfl) ?_
  refine sq 3 rfl rfl (Y_assign (v := .bool false) rfl rfl) ?_
  refine rw_nil ?_
  refine cw_seq ?_
  refine cw_region ?_
  refine sq 7 rfl rfl (Y_loadA (B := some ⟨b, 0, none⟩) (i := 0) (cs := [vi m.Rows, vi m.Cols, .slice B m.Cells.length c]) (vs := [vi m.Rows, vi m.Cols, .slice B m.Cells.length c]) k_ag_32 k_sz_32_3 rfl rfl (hS1.cf (i := 0) rfl) rfl rfl) ?_
  obtain ⟨⟨r_2, r_3⟩, hc, hF⟩ := bind_inv hF
  refine sc 8 rfl rfl (Yc_func (g := 8) (vs := [.agg #[vi m.Rows, vi m.Cols, .slice B m.Cells.length c]]) k_call_8 rfl (mc rfl mn) (c_impl_BlochOf m B c m.Cells.length _ rfl (hS1.inn0 [(true, 0), (true, 1)] rfl) hc)) ?_
  rintro _ w_1 ⟨B1, c1, rfl, hd⟩
  have hS2 := hS1.out0 hd
  have hS2 : ST w0 [] _ [⟨some ⟨b, 0, none⟩, 32, [vi m.Rows, vi m.Cols, .slice B m.Cells.length c], 3⟩, ⟨B1, 49, (r_2.Cells.flatMap enc_Dyadic), c1 * 5⟩] [⟨B, (m.Cells.flatMap enc_Dyadic)⟩, ⟨(some ⟨0, 0, none⟩), [vi 1, vi 0, vi 0, vi 0, vi 2]⟩] := hS2
  refine sq 6 rfl rfl (Y_move (v := .tuple #[.agg #[.slice B1 r_2.Cells.length c1], .bool r_3]) rfl rfl) ?_
  refine sq 9 rfl rfl (Y_extract (v := .agg #[.slice B1 r_2.Cells.length c1]) rfl rfl rfl) ?_
  refine sq 10 rfl rfl (Y_extract (v := .bool r_3) rfl rfl rfl) ?_
  refine ss 4 rfl rfl (Ys_alloc (T := 28) (cs := [.slice none 0 0]) (m := 1) hS2 k_zero_28 rfl rfl rfl) ?_
  rintro _ w_2 ⟨b1, rfl, hS3⟩
  have hS3 : ST w0 [] _ [⟨some ⟨b, 0, none⟩, 32, [vi m.Rows, vi m.Cols, .slice B m.Cells.length c], 3⟩, ⟨B1, 49, (r_2.Cells.flatMap enc_Dyadic), c1 * 5⟩, ⟨some ⟨b1, 0, none⟩, 28, [.slice none 0 0], 1⟩] [⟨B, (m.Cells.flatMap enc_Dyadic)⟩, ⟨(some ⟨0, 0, none⟩), [vi 1, vi 0, vi 0, vi 0, vi 2]⟩] := hS3
  refine ss0 rfl rfl (Ys_store (i := 2) (s := 1) (B := some ⟨b1, 0, none⟩) (T' := 28) (v := .agg #[.slice B1 r_2.Cells.length c1]) (vs := [.slice B1 r_2.Cells.length c1]) (k := 0) (cs' := [.slice B1 r_2.Cells.length c1]) hS3 k_sz_28_1 rfl rfl rfl rfl rfl rfl rfl (Nat.le_of_ble_eq_true rfl) rfl rfl) ?_
  rintro _ w_3 ⟨rfl, hS4⟩
  have hS4 : ST w0 [] _ [⟨some ⟨b, 0, none⟩, 32, [vi m.Rows, vi m.Cols, .slice B m.Cells.length c], 3⟩, ⟨B1, 49, (r_2.Cells.flatMap enc_Dyadic), c1 * 5⟩, ⟨some ⟨b1, 0, none⟩, 28, [.slice B1 r_2.Cells.length c1], 1⟩] [⟨B, (m.Cells.flatMap enc_Dyadic)⟩, ⟨(some ⟨0, 0, none⟩), [vi 1, vi 0, vi 0, vi 0, vi 2]⟩] := hS4
  refine sq 5 rfl rfl (Y_assign (v := .bool r_3) rfl rfl) ?_
  refine rw_nil ?_
  refine cw_seq ?_
  refine cw_seq ?_
  refine cw_region ?_
  refine sq 11 rfl rfl (Y_move (v := .bool r_3) rfl rfl) ?_
  refine sq 12 rfl rfl (Y_not (p := r_3) rfl rfl) ?_
  refine rw_nil ?_
  refine cw_cond (b := (!r_3)) rfl (fun hb => ?_) (fun hb => ?_)
  · skip
    have hF1 := ct hF hb
    refine cw_seq ?_
    refine cw_region ?_
    refine sq 2 rfl rfl (Y_assign (v := vi 0) rfl rfl) ?_
    refine sq 3 rfl rfl (Y_assign (v := .bool false) rfl rfl) ?_
    refine rw_nil ?_
    refine cw_ret ?_
    obtain ⟨rfl, rfl⟩ := pr2 (some_inj hF1)
    exact ret2 Tryd.results15 (v1 := vi 0) (resAt_tmp rfl) (v2 := .bool false) (resAt_tmp rfl) ⟨rfl, (ST.subR (R' := []) (hS4.sel [] rfl rfl) (fun _ h => by cases h))⟩
  · skip
    have hF2 := cf' hF hb
    refine cw_skip ?_
    refine cw_seq ?_
    refine cw_region ?_
    refine sq 13 rfl rfl (Y_loadA (B := some ⟨b1, 0, none⟩) (i := 0) (cs := [.slice B1 r_2.Cells.length c1]) (vs := [.slice B1 r_2.Cells.length c1]) k_ag_28 k_sz_28_1 rfl rfl (hS4.cf (i := 2) rfl) rfl rfl) ?_
    obtain ⟨r_4, hc1, hF2⟩ := bind_inv hF2
    refine sc 14 rfl rfl (Yc_func (g := 27) (vs := [.agg #[.slice B1 r_2.Cells.length c1]]) k_call_27 rfl (mc rfl mn) (c_impl_blochExp r_2 B1 c1 r_2.Cells.length _ rfl (hS4.inn0 [(false, 1)] rfl) hc1)) ?_
    rintro _ w_4 ⟨rfl, hd1⟩
    have hS5 := hS4.out00 hd1
    have hS5 : ST w0 [] _ [⟨some ⟨b, 0, none⟩, 32, [vi m.Rows, vi m.Cols, .slice B m.Cells.length c], 3⟩, ⟨B1, 49, (r_2.Cells.flatMap enc_Dyadic), c1 * 5⟩, ⟨some ⟨b1, 0, none⟩, 28, [.slice B1 r_2.Cells.length c1], 1⟩] [⟨B, (m.Cells.flatMap enc_Dyadic)⟩, ⟨(some ⟨0, 0, none⟩), [vi 1, vi 0, vi 0, vi 0, vi 2]⟩] := hS5
    refine sq 2 rfl rfl (Y_assign (v := vi r_4) rfl rfl) ?_
    refine sq 3 rfl rfl (Y_assign (v := .bool true) rfl rfl) ?_
    refine rw_nil ?_
    refine cw_ret ?_
    obtain ⟨rfl, rfl⟩ := pr2 (some_inj hF2)
    exact ret2 Tryd.results15 (v1 := vi r_4) (resAt_tmp rfl) (v2 := .bool true) (resAt_tmp rfl) ⟨rfl, (ST.subR (R' := []) (hS5.sel [] rfl rfl) (fun _ h => by cases h))⟩

theorem c_laws_FnExactLeastTCount (aM : TMatrix) (B : Option Addr) (c n : Nat) (w0 : World) (hn : aM.Cells.length = n) (hS : ST w0 [] w0 [] [⟨B, (aM.Cells.flatMap enc_Dyadic)⟩, ⟨(some ⟨0, 0, none⟩), [vi 1, vi 0, vi 0, vi 0, vi 2]⟩]) {r_ : Bool} (hF : F_laws_FnExactLeastTCount aM = some r_) :
    CV Tryd.prog 4 #[.agg #[vi aM.Rows, vi aM.Cols, .slice B n c]] w0 (fun v w' => v = .bool r_ ∧ ST w0 [] w' [] []) := by
  subst hn
  unfold F_laws_FnExactLeastTCount at hF
  refine cv_of_cw 40 Tryd.func4 rfl Tryd.ntmps4 rfl ?_
  refine cw_seq ?_
  refine cw_region ?_
  refine ss 1 rfl rfl (Ys_box (T := 24) (v := .agg #[vi aM.Rows, vi aM.Cols, .slice B aM.Cells.length c]) (cs := [vi aM.Rows, vi aM.Cols, .slice B aM.Cells.length c]) (m := 3) hS rfl rfl rfl rfl) ?_
  rintro _ w_ ⟨b, rfl, hS1⟩
  refine sq 2 rfl rfl (Y_assign (v := .bool false) rfl rfl) ?_
  refine rw_nil ?_
  refine cw_seq ?_
  refine cw_region ?_
  refine sq 3 rfl rfl (Y_assign (v := vi 1048576) rfl rfl) ?_
  refine rw_nil ?_
  refine cw_seq ?_
  refine cw_region ?_
  refine sq 9 rfl rfl (Y_loadA (B := some ⟨b, 0, none⟩) (i := 0) (cs := [vi aM.Rows, vi aM.Cols, .slice B aM.Cells.length c]) (vs := [vi aM.Rows, vi aM.Cols, .slice B aM.Cells.length c]) k_ag_24 k_sz_24_3 rfl rfl (hS1.cf (i := 0) rfl) rfl rfl) ?_
  refine sq 10 rfl rfl (Y_move (v := vi 1048576) rfl rfl) ?_
  obtain ⟨r_1, hc, hF⟩ := bind_inv hF
  refine sc 11 rfl rfl (Yc_func (g := 5) (vs := [.agg #[vi aM.Rows, vi aM.Cols, .slice B aM.Cells.length c], vi 1048576]) k_call_5 rfl (mc rfl (mc rfl mn)) (c_laws_szMatrix aM 1048576 B c aM.Cells.length _ rfl (hS1.inn0 [(true, 0)] rfl) hc)) ?_
  rintro _ w_1 ⟨rfl, hd⟩
  have hS2 := hS1.out00 hd
  refine sq 3 rfl rfl (Y_assign (v := vi r_1) rfl rfl) ?_
  refine rw_nil ?_
  refine cw_seq ?_
  refine cw_seq ?_
  refine cw_region ?_
  refine sq 12 rfl rfl (Y_move (v := vi r_1) rfl rfl) ?_
  refine sq 13 rfl rfl (Y_lt (k := .i64) (a := r_1) (b := 0) rfl rfl rfl) ?_
  refine rw_nil ?_
  refine cw_cond (b := (decide (r_1 < 0))) rfl (fun hb => ?_) (fun hb => ?_)
  · skip
    have hF1 := ct hF hb
    refine cw_seq ?_
    refine cw_region ?_
    refine sq 2 rfl rfl (Y_assign (v := .bool true) rfl rfl) ?_
    refine rw_nil ?_
    refine cw_ret ?_
    obtain rfl := some_inj hF1
    exact ret1 Tryd.results4 (v1 := .bool true) (resAt_tmp rfl) ⟨rfl, (ST.subR (R' := []) (hS2.sel [] rfl rfl) (fun _ h => by cases h))⟩
  · skip
    have hF2 := cf' hF hb
    refine cw_skip ?_
    refine cw_seq ?_
    refine cw_region ?_
    refine sq 15 rfl rfl (Y_loadA (B := some ⟨b, 0, none⟩) (i := 0) (cs := [vi aM.Rows, vi aM.Cols, .slice B aM.Cells.length c]) (vs := [vi aM.Rows, vi aM.Cols, .slice B aM.Cells.length c]) k_ag_24 k_sz_24_3 rfl rfl (hS2.cf (i := 0) rfl) rfl rfl) ?_
    obtain ⟨r_2, hc1, hF2⟩ := bind_inv hF2
    refine sc 16 rfl rfl (Yc_func (g := 7) (vs := [.agg #[vi aM.Rows, vi aM.Cols, .slice B aM.Cells.length c]]) k_call_7 rfl (mc rfl mn) (c_laws_toMatrix aM B c aM.Cells.length _ rfl (hS2.inn0 [(true, 0)] rfl) hc1)) ?_
    rintro _ w_2 ⟨B1, c1, rfl, hd1⟩
    have hS3 := hS2.out0 hd1
    have hS3 : ST w0 [] _ [⟨some ⟨b, 0, none⟩, 24, [vi aM.Rows, vi aM.Cols, .slice B aM.Cells.length c], 3⟩, ⟨B1, 49, (r_2.Cells.flatMap enc_Dyadic), c1 * 5⟩] [⟨B, (aM.Cells.flatMap enc_Dyadic)⟩, ⟨(some ⟨0, 0, none⟩), [vi 1, vi 0, vi 0, vi 0, vi 2]⟩] := hS3
    obtain ⟨⟨r_3, r_4⟩, hc2, hF2⟩ := bind_inv hF2
    refine sc 17 rfl rfl (Yc_func (g := 14) (vs := [.agg #[vi r_2.Rows, vi r_2.Cols, .slice B1 r_2.Cells.length c1]]) k_call_14 rfl (mc rfl mn) (c_spec_LeastTCount r_2 B1 c1 r_2.Cells.length _ rfl (hS3.inn0 [(false, 1)] rfl) hc2)) ?_
    rintro _ w_3 ⟨rfl, hd2⟩
    have hS4 := hS3.out00 hd2
    have hS4 : ST w0 [] _ [⟨some ⟨b, 0, none⟩, 24, [vi aM.Rows, vi aM.Cols, .slice B aM.Cells.length c], 3⟩, ⟨B1, 49, (r_2.Cells.flatMap enc_Dyadic), c1 * 5⟩] [⟨B, (aM.Cells.flatMap enc_Dyadic)⟩, ⟨(some ⟨0, 0, none⟩), [vi 1, vi 0, vi 0, vi 0, vi 2]⟩] := hS4
    refine sq 14 rfl rfl (Y_move (v := .tuple #[vi r_3, .bool r_4]) rfl rfl) ?_
    refine sq 18 rfl rfl (Y_extract (v := vi r_3) rfl rfl rfl) ?_
    refine sq 19 rfl rfl (Y_extract (v := .bool r_4) rfl rfl rfl) ?_
    refine sq 4 rfl rfl (Y_assign (v := vi r_3) rfl rfl) ?_
    refine sq 5 rfl rfl (Y_assign (v := .bool r_4) rfl rfl) ?_
    refine rw_nil ?_
    refine cw_seq ?_
    refine cw_region ?_
    refine sq 20 rfl rfl (Y_loadA (B := some ⟨b, 0, none⟩) (i := 0) (cs := [vi aM.Rows, vi aM.Cols, .slice B aM.Cells.length c]) (vs := [vi aM.Rows, vi aM.Cols, .slice B aM.Cells.length c]) k_ag_24 k_sz_24_3 rfl rfl (hS4.cf (i := 0) rfl) rfl rfl) ?_
    obtain ⟨r_5, hc3, hF2⟩ := bind_inv hF2
    refine sc 21 rfl rfl (Yc_func (g := 7) (vs := [.agg #[vi aM.Rows, vi aM.Cols, .slice B aM.Cells.length c]]) k_call_7 rfl (mc rfl mn) (c_laws_toMatrix aM B c aM.Cells.length _ rfl (hS4.inn0 [(true, 0)] rfl) hc3)) ?_
    rintro _ w_4 ⟨B2, c2, rfl, hd3⟩
    have hS5 := hS4.out0 hd3
    have hS5 : ST w0 [] _ [⟨some ⟨b, 0, none⟩, 24, [vi aM.Rows, vi aM.Cols, .slice B aM.Cells.length c], 3⟩, ⟨B1, 49, (r_2.Cells.flatMap enc_Dyadic), c1 * 5⟩, ⟨B2, 49, (r_5.Cells.flatMap enc_Dyadic), c2 * 5⟩] [⟨B, (aM.Cells.flatMap enc_Dyadic)⟩, ⟨(some ⟨0, 0, none⟩), [vi 1, vi 0, vi 0, vi 0, vi 2]⟩] := hS5
    refine ss 6 rfl rfl (Ys_alloc (T := 32) (cs := [vi 0, vi 0, .slice none 0 0]) (m := 3) hS5 k_zero_32 rfl rfl rfl) ?_
    rintro _ w_5 ⟨b1, rfl, hS6⟩
    have hS6 : ST w0 [] _ [⟨some ⟨b, 0, none⟩, 24, [vi aM.Rows, vi aM.Cols, .slice B aM.Cells.length c], 3⟩, ⟨B1, 49, (r_2.Cells.flatMap enc_Dyadic), c1 * 5⟩, ⟨B2, 49, (r_5.Cells.flatMap enc_Dyadic), c2 * 5⟩, ⟨some ⟨b1, 0, none⟩, 32, [vi 0, vi 0, .slice none 0 0], 3⟩] [⟨B, (aM.Cells.flatMap enc_Dyadic)⟩, ⟨(some ⟨0, 0, none⟩), [vi 1, vi 0, vi 0, vi 0, vi 2]⟩] := hS6
    refine ss0 rfl rfl (Ys_store (i := 3) (s := 3) (B := some ⟨b1, 0, none⟩) (T' := 32) (v := .agg #[vi r_5.Rows, vi r_5.Cols, .slice B2 r_5.Cells.length c2]) (vs := [vi r_5.Rows, vi r_5.Cols, .slice B2 r_5.Cells.length c2]) (k := 0) (cs' := [vi r_5.Rows, vi r_5.Cols, .slice B2 r_5.Cells.length c2]) hS6 k_sz_32_3 rfl rfl rfl rfl rfl rfl rfl (Nat.le_of_ble_eq_true rfl) rfl rfl) ?_
    rintro _ w_6 ⟨rfl, hS7⟩
    have hS7 : ST w0 [] _ [⟨some ⟨b, 0, none⟩, 24, [vi aM.Rows, vi aM.Cols, .slice B aM.Cells.length c], 3⟩, ⟨B1, 49, (r_2.Cells.flatMap enc_Dyadic), c1 * 5⟩, ⟨B2, 49, (r_5.Cells.flatMap enc_Dyadic), c2 * 5⟩, ⟨some ⟨b1, 0, none⟩, 32, [vi r_5.Rows, vi r_5.Cols, .slice B2 r_5.Cells.length c2], 3⟩] [⟨B, (aM.Cells.flatMap enc_Dyadic)⟩, ⟨(some ⟨0, 0, none⟩), [vi 1, vi 0, vi 0, vi 0, vi 2]⟩] := hS7
    refine rw_nil ?_
    refine cw_seq ?_
    refine cw_region ?_
    refine sq 23 rfl rfl (Y_loadA (B := some ⟨b1, 0, none⟩) (i := 0) (cs := [vi r_5.Rows, vi r_5.Cols, .slice B2 r_5.Cells.length c2]) (vs := [vi r_5.Rows, vi r_5.Cols, .slice B2 r_5.Cells.length c2]) k_ag_32 k_sz_32_3 rfl rfl (hS7.cf (i := 3) rfl) rfl rfl) ?_
    obtain ⟨⟨r_6, r_7⟩, hc4, hF2⟩ := bind_inv hF2
    refine sc 24 rfl rfl (Yc_func (g := 15) (vs := [.agg #[vi r_5.Rows, vi r_5.Cols, .slice B2 r_5.Cells.length c2]]) k_call_15 rfl (mc rfl mn) (c_impl_LeastTCount r_5 B2 c2 r_5.Cells.length _ rfl (hS7.inn0 [(false, 2), (true, 1)] rfl) hc4)) ?_
    rintro _ w_7 ⟨rfl, hd4⟩
    have hS8 := hS7.out00 hd4
    have hS8 : ST w0 [] _ [⟨some ⟨b, 0, none⟩, 24, [vi aM.Rows, vi aM.Cols, .slice B aM.Cells.length c], 3⟩, ⟨B1, 49, (r_2.Cells.flatMap enc_Dyadic), c1 * 5⟩, ⟨B2, 49, (r_5.Cells.flatMap enc_Dyadic), c2 * 5⟩, ⟨some ⟨b1, 0, none⟩, 32, [vi r_5.Rows, vi r_5.Cols, .slice B2 r_5.Cells.length c2], 3⟩] [⟨B, (aM.Cells.flatMap enc_Dyadic)⟩, ⟨(some ⟨0, 0, none⟩), [vi 1, vi 0, vi 0, vi 0, vi 2]⟩] := hS8
    refine sq 22 rfl rfl (Y_move (v := .tuple #[vi r_6, .bool r_7]) rfl rfl) ?_
    refine sq 25 rfl rfl (Y_extract (v := vi r_6) rfl rfl rfl) ?_
    refine sq 26 rfl rfl (Y_extract (v := .bool r_7) rfl rfl rfl) ?_
    refine sq 7 rfl rfl (Y_assign (v := vi r_6) rfl rfl) ?_
    refine sq 8 rfl rfl (Y_assign (v := .bool r_7) rfl rfl) ?_
    refine rw_nil ?_
    refine cw_seq ?_
    refine cw_seq ?_
    refine cw_region ?_
    refine sq 27 rfl rfl (Y_move (v := vi r_6) rfl rfl) ?_
    refine sq 28 rfl rfl (Y_move (v := vi r_3) rfl rfl) ?_
    refine sq 29 rfl rfl (Y_ne (k := .i64) (a := r_6) (b := r_3) rfl rfl rfl) ?_
    refine sq 30 rfl rfl (Y_move (v := .bool (r_6 != r_3)) rfl rfl) ?_
    refine sgq 31 (B := (!(r_6 != r_3))) (v := .bool r_7) rfl rfl (wt_f (gd_of (t := 30) (by kernel_rfl) rfl)) (fun hg => (Y_move (v := .bool r_7) rfl rfl)) ?_
    refine sgq 32 (B := (!(r_6 != r_3))) (v := .bool r_4) rfl rfl (wt_f (gd_of (t := 30) (by kernel_rfl) rfl)) (fun hg1 => (Y_move (v := .bool r_4) rfl rfl)) ?_
    refine sgq 33 (B := (!(r_6 != r_3))) (v := .bool (!(r_7 == r_4))) rfl rfl (wt_f (gd_of (t := 30) (by kernel_rfl) rfl)) (fun hg2 => (Y_bne (p := r_7) (q := r_4) k_und_4 rfl (gv_of (B := (!(r_6 != r_3))) (v := .bool r_7) hg2) (gv_of (B := (!(r_6 != r_3))) (v := .bool r_4) hg2))) ?_
    refine sq 34 rfl rfl (Y_or (b := (r_6 != r_3)) (z := (!(r_7 == r_4))) rfl rfl rfl rfl) ?_
    refine rw_nil ?_
    refine cw_cond (b := ((r_6 != r_3) || (!(r_7 == r_4)))) rfl (fun hb1 => ?_) (fun hb1 => ?_)
    · skip
      have hF3 := ct hF2 hb1
      refine cw_seq ?_
      refine cw_region ?_
      refine sq 2 rfl rfl (Y_assign (v := .bool false) rfl rfl) ?_
      refine rw_nil ?_
      refine cw_ret ?_
      obtain rfl := some_inj hF3
      exact ret1 Tryd.results4 (v1 := .bool false) (resAt_tmp rfl) ⟨rfl, (ST.subR (R' := []) (hS8.sel [] rfl rfl) (fun _ h => by cases h))⟩
    · skip
      have hF4 := cf' hF2 hb1
      refine cw_skip ?_
      refine cw_seq ?_
      refine cw_seq ?_
      obtain ⟨r_8, hc5, hF4⟩ := bind_inv hF4
      obtain ⟨r_9, hc6, hF4⟩ := bind_inv hF4
      refine ra_start (ST.sel hS8 [0, 1, 2, 3] rfl rfl).fn (by kernel_rfl) ?_
      have hS11 := hS8.drew
      refine ra_q 0 35 (v := .agg #[vi r_5.Rows, vi r_5.Cols, .slice B2 r_5.Cells.length c2]) rfl rfl rfl (by kernel_rfl) (by kernel_rfl) (by kernel_rfl) (ST.sel hS11 [0, 1, 2, 3] rfl rfl) (fun w' hw' => (Y_loadA (B := some ⟨b1, 0, none⟩) (i := 0) (cs := [vi r_5.Rows, vi r_5.Cols, .slice B2 r_5.Cells.length c2]) (vs := [vi r_5.Rows, vi r_5.Cols, .slice B2 r_5.Cells.length c2]) k_ag_32 k_sz_32_3 rfl rfl (ST.cf hw' (i := 3) rfl) rfl rfl)) ?_
      refine ra_q 1 36 (v := .agg #[vi aM.Rows, vi aM.Cols, .slice B aM.Cells.length c]) rfl rfl rfl (by kernel_rfl) (by kernel_rfl) (by kernel_rfl) (ST.sel hS11 [0, 1, 2, 3] rfl rfl) (fun w' hw' => (Y_loadA (B := some ⟨b, 0, none⟩) (i := 0) (cs := [vi aM.Rows, vi aM.Cols, .slice B aM.Cells.length c]) (vs := [vi aM.Rows, vi aM.Cols, .slice B aM.Cells.length c]) k_ag_24 k_sz_24_3 rfl rfl (ST.cf hw' (i := 0) rfl) rfl rfl)) ?_
      refine ra_all (rs := [2]) (by kernel_rfl) rfl ?_
      refine ra_c 37 (i := 2) rfl rfl rfl (Yc_func (g := 7) (vs := [.agg #[vi aM.Rows, vi aM.Cols, .slice B aM.Cells.length c]]) k_call_7 rfl (mc rfl mn) (c_laws_toMatrix aM B c aM.Cells.length _ rfl (hS11.inn0 [(true, 0)] rfl) hc5)) ?_ ?_
      · rintro _ w_8 ⟨B3, c3, rfl, hd5⟩
        have hS12 := hS11.out0 hd5
        have hS12 : ST w0 [] _ [⟨some ⟨b, 0, none⟩, 24, [vi aM.Rows, vi aM.Cols, .slice B aM.Cells.length c], 3⟩, ⟨B1, 49, (r_2.Cells.flatMap enc_Dyadic), c1 * 5⟩, ⟨B2, 49, (r_5.Cells.flatMap enc_Dyadic), c2 * 5⟩, ⟨some ⟨b1, 0, none⟩, 32, [vi r_5.Rows, vi r_5.Cols, .slice B2 r_5.Cells.length c2], 3⟩, ⟨B3, 49, (r_8.Cells.flatMap enc_Dyadic), c3 * 5⟩] [⟨B, (aM.Cells.flatMap enc_Dyadic)⟩, ⟨(some ⟨0, 0, none⟩), [vi 1, vi 0, vi 0, vi 0, vi 2]⟩] := hS12
        refine ⟨(ST.sel hS12 [0, 1, 2, 3] rfl rfl), ?_⟩
        refine ra_all (rs := [3]) (by kernel_rfl) rfl ?_
        refine ra_c 38 (i := 3) rfl rfl rfl (Yc_func (g := 10) (vs := [.agg #[vi r_5.Rows, vi r_5.Cols, .slice B2 r_5.Cells.length c2], .agg #[vi r_8.Rows, vi r_8.Cols, .slice B3 r_8.Cells.length c3]]) k_call_10 rfl (mc rfl (mc rfl mn)) (c_laws_eqMatrix r_5 r_8 B2 c2 r_5.Cells.length B3 c3 r_8.Cells.length _ rfl rfl (hS12.inn0 [(false, 2), (false, 4)] rfl) hc6)) ?_ ?_
        · rintro _ w_9 ⟨rfl, hd6⟩
          have hS13 := hS12.out00 hd6
          have hS13 : ST w0 [] _ [⟨some ⟨b, 0, none⟩, 24, [vi aM.Rows, vi aM.Cols, .slice B aM.Cells.length c], 3⟩, ⟨B1, 49, (r_2.Cells.flatMap enc_Dyadic), c1 * 5⟩, ⟨B2, 49, (r_5.Cells.flatMap enc_Dyadic), c2 * 5⟩, ⟨some ⟨b1, 0, none⟩, 32, [vi r_5.Rows, vi r_5.Cols, .slice B2 r_5.Cells.length c2], 3⟩, ⟨B3, 49, (r_8.Cells.flatMap enc_Dyadic), c3 * 5⟩] [⟨B, (aM.Cells.flatMap enc_Dyadic)⟩, ⟨(some ⟨0, 0, none⟩), [vi 1, vi 0, vi 0, vi 0, vi 2]⟩] := hS13
          refine ⟨(ST.sel hS13 [0, 1, 2, 3] rfl rfl), ?_⟩
          refine ra_q 4 39 (v := .bool (!r_9)) rfl rfl rfl (by kernel_rfl) (by kernel_rfl) (by kernel_rfl) (ST.sel hS13 [0, 1, 2, 3] rfl rfl) (fun w' hw' => (Y_not (p := r_9) rfl rfl)) ?_
          refine ra_done (by kernel_rfl) ?_
          refine cw_cond (b := (!r_9)) rfl (fun hb2 => ?_) (fun hb2 => ?_)
          · skip
            have hF5 := ct hF4 hb2
            refine cw_seq ?_
            refine cw_region ?_
            refine sq 2 rfl rfl (Y_assign (v := .bool false) rfl rfl) ?_
            refine rw_nil ?_
            refine cw_ret ?_
            obtain rfl := some_inj hF5
            exact ret1 Tryd.results4 (v1 := .bool false) (resAt_tmp rfl) ⟨rfl, (ST.subR (R' := []) (hS13.sel [] rfl rfl) (fun _ h => by cases h))⟩
          · skip
            have hF6 := cf' hF4 hb2
            refine cw_skip ?_
            refine cw_seq ?_
            refine cw_region ?_
            refine sq 2 rfl rfl (Y_assign (v := .bool true) rfl rfl) ?_
            refine rw_nil ?_
            refine cw_ret ?_
            obtain rfl := some_inj hF6
            exact ret1 Tryd.results4 (v1 := .bool true) (resAt_tmp rfl) ⟨rfl, (ST.subR (R' := []) (hS13.sel [] rfl rfl) (fun _ h => by cases h))⟩
        exact allR_nil
      exact allR_nil
end Go.VK
