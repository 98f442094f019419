/- Walks: each Go function returns what its Lean function says. By program. -/
import Derived.Test.YtpeokafglhdpcaaQubitWeightFa
import Derived.Test.YtpeokafglhdpcaaQubitWeightW3
set_option linter.unusedVariables false
set_option maxRecDepth 100000
set_option maxHeartbeats 1000000
namespace Go.VK
open Go.RowKit
open Go.Proofs
attribute [local irreducible] CW RW RA CV Y Yw Yc Ys RetOf
attribute [local irreducible] F_laws_szGateS F_laws_szCircuit F_laws_toGate F_laws_toGateS F_laws_toCircuit F_laws_eqGate F_laws_eqGateS F_laws_eqCircuit F_laws_eqRing F_laws_eqDyadic F_spec_l1Turn F_spec_l2Power F_spec_l3Unit F_spec_l1In F_spec_l4Gate F_spec_l4Good F_spec_l2C_matrix F_spec_l1All F_spec_l1Good F_spec_l2C_ring F_spec_l1Root F_spec_l1Even F_spec_l1Half F_spec_l2Low F_spec_l1Add F_spec_l2C_add F_spec_l1Mul F_spec_l2C_mul F_spec_l2C_times F_spec_l6Bit F_spec_l1Neg F_spec_l2Neg F_spec_l6One F_spec_l6Cell F_spec_l6Gate F_spec_l2C_run F_spec_l3Column F_spec_StateAfter F_spec_l1Conj F_spec_l2Conj F_spec_l2C_out F_spec_QubitWeight F_impl_within F_impl_isDim F_impl_matrixOf F_impl_whole F_impl_IdentityMatrix_1 F_impl_IdentityMatrix F_slices_IndexFunc_impl_Gate_impl_Gate F_slices_ContainsFunc_impl_Gate_impl_Gate F_impl_isTwo F_impl_IsValidGate F_impl_IsValidCircuit_1 F_impl_IsValidCircuit F_slices_IndexFunc_impl_Dyadic_impl_Dyadic F_slices_ContainsFunc_impl_Dyadic_impl_Dyadic F_impl_isCoef F_impl_IsValidRing F_impl_isEven F_impl_IsValidDyadic F_impl_IsValidMatrix_1 F_impl_IsValidMatrix F_impl_ringIf F_impl_DivRootTwo F_impl_DyadicOf F_impl_MulRootTwo F_impl_raised F_impl_combined F_impl_AddRing F_impl_AddDyadic F_impl_MulRing F_impl_MulDyadic F_impl_Matrix_at F_impl_MulMatrix_1 F_impl_MulMatrix F_impl_bitOf F_impl_MulOmega F_impl_phase F_impl_small F_impl_flipped F_impl_comesFrom F_impl_entry F_impl_GateMatrix_1 F_impl_GateMatrix F_impl_applied F_impl_ColumnOf_1 F_impl_ColumnOf F_impl_StateAfter F_impl_Conjugate F_impl_ConjDyadic F_impl_NormSquare F_impl_QubitWeight F_laws_FnExactQubitWeight
theorem c_impl_combined (x : TDyadic) (y : TDyadic) (operation : TRing → TRing → Option (TRing × Bool)) (kf : Nat) (caps : Array Value) (Rf : List Ro) (w0 : World) (hk : callB Try.prog kf = true) (hp : ∀ (w : World), ST w [] w [] Rf → ∀ (x1 : TRing) (x2 : TRing) (y2 : TRing) (y3 : Bool), operation x1 x2 = some (y2, y3) → CV Try.prog kf ((.agg #[.int .i64 x1.A, .int .i64 x1.B, .int .i64 x1.C, .int .i64 x1.D]) :: (.agg #[.int .i64 x2.A, .int .i64 x2.B, .int .i64 x2.C, .int .i64 x2.D]) :: caps.toList).toArray w (fun v w' => v = .tuple #[.agg #[.int .i64 y2.A, .int .i64 y2.B, .int .i64 y2.C, .int .i64 y2.D], .bool y3] ∧ ST w [] w' [] [])) (hS : ST w0 [] w0 [] (Rf)) {r_ : TDyadic} {r_1 : Bool} (hF : F_impl_combined x y operation = some (r_, r_1)) :
    CV Try.prog 186 #[.agg #[.int .i64 x.Num.A, .int .i64 x.Num.B, .int .i64 x.Num.C, .int .i64 x.Num.D, .int .i64 x.Exp], .agg #[.int .i64 y.Num.A, .int .i64 y.Num.B, .int .i64 y.Num.C, .int .i64 y.Num.D, .int .i64 y.Exp], .func (.func kf) #[] caps] w0 (fun v w' => v = .tuple #[.agg #[.int .i64 r_.Num.A, .int .i64 r_.Num.B, .int .i64 r_.Num.C, .int .i64 r_.Num.D, .int .i64 r_.Exp], .bool r_1] ∧ ST w0 [] w' [] []) := by
  unfold F_impl_combined at hF
  refine cv_of_cw 64 Try.func186 rfl Try.ntmps186 rfl ?_
  refine cw_seq ?_
  refine cw_region ?_
  refine ss 3 rfl rfl (Ys_box (T := 83) (v := .agg #[.int .i64 x.Num.A, .int .i64 x.Num.B, .int .i64 x.Num.C, .int .i64 x.Num.D, .int .i64 x.Exp]) (cs := [.int .i64 x.Num.A, .int .i64 x.Num.B, .int .i64 x.Num.C, .int .i64 x.Num.D, .int .i64 x.Exp]) (m := 5) hS rfl rfl rfl rfl) ?_
  rintro _ w_ ⟨b, rfl, hS1⟩
  refine ss 4 rfl rfl (Ys_box (T := 83) (v := .agg #[.int .i64 y.Num.A, .int .i64 y.Num.B, .int .i64 y.Num.C, .int .i64 y.Num.D, .int .i64 y.Exp]) (cs := [.int .i64 y.Num.A, .int .i64 y.Num.B, .int .i64 y.Num.C, .int .i64 y.Num.D, .int .i64 y.Exp]) (m := 5) hS1 rfl rfl rfl rfl) ?_
  rintro _ w_1 ⟨b1, rfl, hS2⟩
  have hS2 : ST w0 [] _ [⟨some ⟨b, 0, none⟩, 83, [.int .i64 x.Num.A, .int .i64 x.Num.B, .int .i64 x.Num.C, .int .i64 x.Num.D, .int .i64 x.Exp], 5⟩, ⟨some ⟨b1, 0, none⟩, 83, [.int .i64 y.Num.A, .int .i64 y.Num.B, .int .i64 y.Num.C, .int .i64 y.Num.D, .int .i64 y.Exp], 5⟩] (Rf) := hS2
  refine ss 6 rfl rfl (Ys_alloc (T := 83) (cs := [.int .i64 0, .int .i64 0, .int .i64 0, .int .i64 0, .int .i64 0]) (m := 5) hS2 k_zero_83 rfl rfl rfl) ?_
  rintro _ w_2 ⟨b2, rfl, hS3⟩
  have hS3 : ST w0 [] _ [⟨some ⟨b, 0, none⟩, 83, [.int .i64 x.Num.A, .int .i64 x.Num.B, .int .i64 x.Num.C, .int .i64 x.Num.D, .int .i64 x.Exp], 5⟩, ⟨some ⟨b1, 0, none⟩, 83, [.int .i64 y.Num.A, .int .i64 y.Num.B, .int .i64 y.Num.C, .int .i64 y.Num.D, .int .i64 y.Exp], 5⟩, ⟨some ⟨b2, 0, none⟩, 83, [.int .i64 0, .int .i64 0, .int .i64 0, .int .i64 0, .int .i64 0], 5⟩] (Rf) := hS3
  refine sq 7 rfl rfl (Y_assign (v := .bool false) rfl rfl) ?_
  refine rw_nil ?_
  refine cw_seq ?_
  refine cw_seq ?_
  refine cw_region ?_
  refine sq 15 rfl rfl (Y_loadA (B := some ⟨b, 0, none⟩) (i := 0) (cs := [.int .i64 x.Num.A, .int .i64 x.Num.B, .int .i64 x.Num.C, .int .i64 x.Num.D, .int .i64 x.Exp]) (vs := [.int .i64 x.Num.A, .int .i64 x.Num.B, .int .i64 x.Num.C, .int .i64 x.Num.D, .int .i64 x.Exp]) k_ag_83 k_sz_83_5 rfl rfl (hS3.cf (i := 0) rfl) rfl rfl) ?_
  obtain ⟨r_2, hc, hF⟩ := bind_inv hF
  refine sc 16 rfl rfl (Yc_func (g := 172) (vs := [.agg #[.int .i64 x.Num.A, .int .i64 x.Num.B, .int .i64 x.Num.C, .int .i64 x.Num.D, .int .i64 x.Exp]]) k_call_172 rfl (mc rfl mn) (c_impl_IsValidDyadic x _  (hS3.inn0 [] rfl) hc)) ?_
  rintro _ w_3 ⟨rfl, hd⟩
  have hS4 := hS3.out00 hd
  have hS4 : ST w0 [] _ [⟨some ⟨b, 0, none⟩, 83, [.int .i64 x.Num.A, .int .i64 x.Num.B, .int .i64 x.Num.C, .int .i64 x.Num.D, .int .i64 x.Exp], 5⟩, ⟨some ⟨b1, 0, none⟩, 83, [.int .i64 y.Num.A, .int .i64 y.Num.B, .int .i64 y.Num.C, .int .i64 y.Num.D, .int .i64 y.Exp], 5⟩, ⟨some ⟨b2, 0, none⟩, 83, [.int .i64 0, .int .i64 0, .int .i64 0, .int .i64 0, .int .i64 0], 5⟩] (Rf) := hS4
  refine sq 17 rfl rfl (Y_not (p := r_2) rfl rfl) ?_
  refine sq 18 rfl rfl (Y_move (v := .bool (!r_2)) rfl rfl) ?_
  refine sgq 19 (B := (!(!r_2))) (v := .agg #[.int .i64 y.Num.A, .int .i64 y.Num.B, .int .i64 y.Num.C, .int .i64 y.Num.D, .int .i64 y.Exp]) rfl rfl (wt_f (gd_of (t := 18) (by kernel_rfl) rfl)) (fun hg => (Y_loadA (B := some ⟨b1, 0, none⟩) (i := 0) (cs := [.int .i64 y.Num.A, .int .i64 y.Num.B, .int .i64 y.Num.C, .int .i64 y.Num.D, .int .i64 y.Exp]) (vs := [.int .i64 y.Num.A, .int .i64 y.Num.B, .int .i64 y.Num.C, .int .i64 y.Num.D, .int .i64 y.Exp]) k_ag_83 k_sz_83_5 rfl rfl (hS4.cf (i := 1) rfl) rfl rfl)) ?_
  obtain ⟨r_3, hc1, hF⟩ := bind_inv hF
  refine sgc 20 (B := (!(!r_2))) (v := .bool r_3) (F := hS4.fn) rfl rfl (wt_f (gd_of (t := 18) (by kernel_rfl) rfl)) hS4 (fun hg1 => (Yc_func (g := 172) (vs := [.agg #[.int .i64 y.Num.A, .int .i64 y.Num.B, .int .i64 y.Num.C, .int .i64 y.Num.D, .int .i64 y.Exp]]) k_call_172 rfl (mc (gv_of (B := (!(!r_2))) (v := .agg #[.int .i64 y.Num.A, .int .i64 y.Num.B, .int .i64 y.Num.C, .int .i64 y.Num.D, .int .i64 y.Exp]) hg1) mn) (CV.mono (c_impl_IsValidDyadic y _  (hS4.inn0 [] rfl) (gb_inv hc1 hg1)) (by rintro _ _ ⟨rfl, h⟩; exact ⟨rfl, hS4.out00 h⟩)))) ?_
  rintro w_4 hS5
  have hS5 : ST _ _ w_4 _ _ := hS5
  refine sgq 21 (B := (!(!r_2))) (v := .bool (!r_3)) rfl rfl (wt_f (gd_of (t := 18) (by kernel_rfl) rfl)) (fun hg2 => (Y_not (p := r_3) rfl (gv_of (B := (!(!r_2))) (v := .bool r_3) hg2))) ?_
  refine sq 22 rfl rfl (Y_or (b := (!r_2)) (z := (!r_3)) rfl rfl rfl rfl) ?_
  refine rw_nil ?_
  refine cw_cond (b := ((!r_2) || (!r_3))) rfl (fun hb => ?_) (fun hb => ?_)
  · skip
    have hF1 := ct hF hb
    refine cw_seq ?_
    refine cw_region ?_
    refine sq 23 rfl rfl (Y_buildS (zs := [.int .i64 0, .int .i64 0, .int .i64 0, .int .i64 0, .int .i64 0]) (vs := []) (cs := [.int .i64 0, .int .i64 0, .int .i64 0, .int .i64 0, .int .i64 0]) k_pl_83 k_zero_83 rfl mpn rfl) ?_
    refine ss0 rfl rfl (Ys_store (i := 2) (s := 5) (B := some ⟨b2, 0, none⟩) (T' := 83) (v := .agg #[.int .i64 0, .int .i64 0, .int .i64 0, .int .i64 0, .int .i64 0]) (vs := [.int .i64 0, .int .i64 0, .int .i64 0, .int .i64 0, .int .i64 0]) (k := 0) (cs' := [.int .i64 0, .int .i64 0, .int .i64 0, .int .i64 0, .int .i64 0]) hS5 k_sz_83_5 rfl rfl rfl rfl rfl rfl rfl (Nat.le_of_ble_eq_true rfl) rfl rfl) ?_
    rintro _ w_5 ⟨rfl, hS6⟩
    have hS6 : ST w0 [] _ [⟨some ⟨b, 0, none⟩, 83, [.int .i64 x.Num.A, .int .i64 x.Num.B, .int .i64 x.Num.C, .int .i64 x.Num.D, .int .i64 x.Exp], 5⟩, ⟨some ⟨b1, 0, none⟩, 83, [.int .i64 y.Num.A, .int .i64 y.Num.B, .int .i64 y.Num.C, .int .i64 y.Num.D, .int .i64 y.Exp], 5⟩, ⟨some ⟨b2, 0, none⟩, 83, [.int .i64 0, .int .i64 0, .int .i64 0, .int .i64 0, .int .i64 0], 5⟩] (Rf) := hS6
    refine sq 7 rfl rfl (Y_assign (v := .bool false) rfl rfl) ?_
    refine rw_nil ?_
    refine cw_ret ?_
    obtain ⟨rfl, rfl⟩ := pr2 (some_inj hF1)
    exact ret2 Try.results186 (v1 := .agg #[.int .i64 0, .int .i64 0, .int .i64 0, .int .i64 0, .int .i64 0]) (resAt_cellA (B := some ⟨b2, 0, none⟩) (i := 0) (cs := [.int .i64 0, .int .i64 0, .int .i64 0, .int .i64 0, .int .i64 0]) (vs := [.int .i64 0, .int .i64 0, .int .i64 0, .int .i64 0, .int .i64 0]) rfl k_ag_83 k_sz_83_5 (hS6.cf (i := 2) rfl) rfl rfl) (v2 := .bool false) (resAt_tmp rfl) ⟨rfl, (ST.subR (R' := []) (hS6.sel [] rfl rfl) (fun _ h => by cases h))⟩
  · skip
    have hF2 := cf' hF hb
    refine cw_skip ?_
    refine cw_seq ?_
    refine cw_region ?_
    refine sq 24 rfl rfl (Y_fieldAddr (B := some ⟨b, 0, none⟩) (i := 0) (s := 0) k_fd_83_1_4_3 k_sz_3_1 rfl rfl) ?_
    refine sq 25 rfl rfl (Y_load1 (B := some ⟨b, 0, none⟩) (i := 4) (cs := [.int .i64 x.Num.A, .int .i64 x.Num.B, .int .i64 x.Num.C, .int .i64 x.Num.D, .int .i64 x.Exp]) (v := .int .i64 x.Exp) k_sc_3 rfl rfl (hS5.cf (i := 0) rfl) rfl) ?_
    refine sq 26 rfl rfl (Y_fieldAddr (B := some ⟨b1, 0, none⟩) (i := 0) (s := 0) k_fd_83_1_4_3 k_sz_3_1 rfl rfl) ?_
    refine sq 27 rfl rfl (Y_load1 (B := some ⟨b1, 0, none⟩) (i := 4) (cs := [.int .i64 y.Num.A, .int .i64 y.Num.B, .int .i64 y.Num.C, .int .i64 y.Num.D, .int .i64 y.Exp]) (v := .int .i64 y.Exp) k_sc_3 rfl rfl (hS5.cf (i := 1) rfl) rfl) ?_
    refine sq 28 rfl rfl (Y_max2 (k := .i64) (a := x.Exp) (b := y.Exp) rfl rfl rfl) ?_
    refine sq 8 rfl rfl (Y_assign (v := .int .i64 (if x.Exp < y.Exp then y.Exp else x.Exp)) rfl rfl) ?_
    refine rw_nil ?_
    refine cw_seq ?_
    refine cw_region ?_
    refine sq 30 rfl rfl (Y_loadA (B := some ⟨b, 0, none⟩) (i := 0) (cs := [.int .i64 x.Num.A, .int .i64 x.Num.B, .int .i64 x.Num.C, .int .i64 x.Num.D, .int .i64 x.Exp]) (vs := [.int .i64 x.Num.A, .int .i64 x.Num.B, .int .i64 x.Num.C, .int .i64 x.Num.D, .int .i64 x.Exp]) k_ag_83 k_sz_83_5 rfl rfl (hS5.cf (i := 0) rfl) rfl rfl) ?_
    refine sq 31 rfl rfl (Y_move (v := .int .i64 (if x.Exp < y.Exp then y.Exp else x.Exp)) rfl rfl) ?_
    obtain ⟨⟨r_4, r_5⟩, hc2, hF2⟩ := bind_inv hF2
    refine sc 32 rfl rfl (Yc_func (g := 246) (vs := [.agg #[.int .i64 x.Num.A, .int .i64 x.Num.B, .int .i64 x.Num.C, .int .i64 x.Num.D, .int .i64 x.Exp], .int .i64 (if x.Exp < y.Exp then y.Exp else x.Exp)]) k_call_246 rfl (mc rfl (mc rfl mn)) (c_impl_raised x (if x.Exp < y.Exp then y.Exp else x.Exp) _  (hS5.inn0 [] rfl) hc2)) ?_
    rintro _ w_6 ⟨rfl, hd1⟩
    have hS7 := hS5.out00 hd1
    have hS7 : ST w0 [] _ [⟨some ⟨b, 0, none⟩, 83, [.int .i64 x.Num.A, .int .i64 x.Num.B, .int .i64 x.Num.C, .int .i64 x.Num.D, .int .i64 x.Exp], 5⟩, ⟨some ⟨b1, 0, none⟩, 83, [.int .i64 y.Num.A, .int .i64 y.Num.B, .int .i64 y.Num.C, .int .i64 y.Num.D, .int .i64 y.Exp], 5⟩, ⟨some ⟨b2, 0, none⟩, 83, [.int .i64 0, .int .i64 0, .int .i64 0, .int .i64 0, .int .i64 0], 5⟩] (Rf) := hS7
    refine sq 29 rfl rfl (Y_move (v := .tuple #[.agg #[.int .i64 r_4.A, .int .i64 r_4.B, .int .i64 r_4.C, .int .i64 r_4.D], .bool r_5]) rfl rfl) ?_
    refine sq 33 rfl rfl (Y_extract (v := .agg #[.int .i64 r_4.A, .int .i64 r_4.B, .int .i64 r_4.C, .int .i64 r_4.D]) rfl rfl rfl) ?_
    refine sq 34 rfl rfl (Y_extract (v := .bool r_5) rfl rfl rfl) ?_
    refine ss 9 rfl rfl (Ys_alloc (T := 81) (cs := [.int .i64 0, .int .i64 0, .int .i64 0, .int .i64 0]) (m := 4) hS7 k_zero_81 rfl rfl rfl) ?_
    rintro _ w_7 ⟨b3, rfl, hS8⟩
    have hS8 : ST w0 [] _ [⟨some ⟨b, 0, none⟩, 83, [.int .i64 x.Num.A, .int .i64 x.Num.B, .int .i64 x.Num.C, .int .i64 x.Num.D, .int .i64 x.Exp], 5⟩, ⟨some ⟨b1, 0, none⟩, 83, [.int .i64 y.Num.A, .int .i64 y.Num.B, .int .i64 y.Num.C, .int .i64 y.Num.D, .int .i64 y.Exp], 5⟩, ⟨some ⟨b2, 0, none⟩, 83, [.int .i64 0, .int .i64 0, .int .i64 0, .int .i64 0, .int .i64 0], 5⟩, ⟨some ⟨b3, 0, none⟩, 81, [.int .i64 0, .int .i64 0, .int .i64 0, .int .i64 0], 4⟩] (Rf) := hS8
    refine ss0 rfl rfl (Ys_store (i := 3) (s := 4) (B := some ⟨b3, 0, none⟩) (T' := 81) (v := .agg #[.int .i64 r_4.A, .int .i64 r_4.B, .int .i64 r_4.C, .int .i64 r_4.D]) (vs := [.int .i64 r_4.A, .int .i64 r_4.B, .int .i64 r_4.C, .int .i64 r_4.D]) (k := 0) (cs' := [.int .i64 r_4.A, .int .i64 r_4.B, .int .i64 r_4.C, .int .i64 r_4.D]) hS8 k_sz_81_4 rfl rfl rfl rfl rfl rfl rfl (Nat.le_of_ble_eq_true rfl) rfl rfl) ?_
    rintro _ w_8 ⟨rfl, hS9⟩
    have hS9 : ST w0 [] _ [⟨some ⟨b, 0, none⟩, 83, [.int .i64 x.Num.A, .int .i64 x.Num.B, .int .i64 x.Num.C, .int .i64 x.Num.D, .int .i64 x.Exp], 5⟩, ⟨some ⟨b1, 0, none⟩, 83, [.int .i64 y.Num.A, .int .i64 y.Num.B, .int .i64 y.Num.C, .int .i64 y.Num.D, .int .i64 y.Exp], 5⟩, ⟨some ⟨b2, 0, none⟩, 83, [.int .i64 0, .int .i64 0, .int .i64 0, .int .i64 0, .int .i64 0], 5⟩, ⟨some ⟨b3, 0, none⟩, 81, [.int .i64 r_4.A, .int .i64 r_4.B, .int .i64 r_4.C, .int .i64 r_4.D], 4⟩] (Rf) := hS9
    refine sq 10 rfl rfl (Y_assign (v := .bool r_5) rfl rfl) ?_
    refine rw_nil ?_
    refine cw_seq ?_
    refine cw_region ?_
    refine sq 36 rfl rfl (Y_loadA (B := some ⟨b1, 0, none⟩) (i := 0) (cs := [.int .i64 y.Num.A, .int .i64 y.Num.B, .int .i64 y.Num.C, .int .i64 y.Num.D, .int .i64 y.Exp]) (vs := [.int .i64 y.Num.A, .int .i64 y.Num.B, .int .i64 y.Num.C, .int .i64 y.Num.D, .int .i64 y.Exp]) k_ag_83 k_sz_83_5 rfl rfl (hS9.cf (i := 1) rfl) rfl rfl) ?_
    refine sq 37 rfl rfl (Y_move (v := .int .i64 (if x.Exp < y.Exp then y.Exp else x.Exp)) rfl rfl) ?_
    obtain ⟨⟨r_6, r_7⟩, hc3, hF2⟩ := bind_inv hF2
    refine sc 38 rfl rfl (Yc_func (g := 246) (vs := [.agg #[.int .i64 y.Num.A, .int .i64 y.Num.B, .int .i64 y.Num.C, .int .i64 y.Num.D, .int .i64 y.Exp], .int .i64 (if x.Exp < y.Exp then y.Exp else x.Exp)]) k_call_246 rfl (mc rfl (mc rfl mn)) (c_impl_raised y (if x.Exp < y.Exp then y.Exp else x.Exp) _  (hS9.inn0 [] rfl) hc3)) ?_
    rintro _ w_9 ⟨rfl, hd2⟩
    have hS10 := hS9.out00 hd2
    have hS10 : ST w0 [] _ [⟨some ⟨b, 0, none⟩, 83, [.int .i64 x.Num.A, .int .i64 x.Num.B, .int .i64 x.Num.C, .int .i64 x.Num.D, .int .i64 x.Exp], 5⟩, ⟨some ⟨b1, 0, none⟩, 83, [.int .i64 y.Num.A, .int .i64 y.Num.B, .int .i64 y.Num.C, .int .i64 y.Num.D, .int .i64 y.Exp], 5⟩, ⟨some ⟨b2, 0, none⟩, 83, [.int .i64 0, .int .i64 0, .int .i64 0, .int .i64 0, .int .i64 0], 5⟩, ⟨some ⟨b3, 0, none⟩, 81, [.int .i64 r_4.A, .int .i64 r_4.B, .int .i64 r_4.C, .int .i64 r_4.D], 4⟩] (Rf) := hS10
    refine sq 35 rfl rfl (Y_move (v := .tuple #[.agg #[.int .i64 r_6.A, .int .i64 r_6.B, .int .i64 r_6.C, .int .i64 r_6.D], .bool r_7]) rfl rfl) ?_
    refine sq 39 rfl rfl (Y_extract (v := .agg #[.int .i64 r_6.A, .int .i64 r_6.B, .int .i64 r_6.C, .int .i64 r_6.D]) rfl rfl rfl) ?_
    refine sq 40 rfl rfl (Y_extract (v := .bool r_7) rfl rfl rfl) ?_
    refine ss 11 rfl rfl (Ys_alloc (T := 81) (cs := [.int .i64 0, .int .i64 0, .int .i64 0, .int .i64 0]) (m := 4) hS10 k_zero_81 rfl rfl rfl) ?_
    rintro _ w_10 ⟨b4, rfl, hS11⟩
    have hS11 : ST w0 [] _ [⟨some ⟨b, 0, none⟩, 83, [.int .i64 x.Num.A, .int .i64 x.Num.B, .int .i64 x.Num.C, .int .i64 x.Num.D, .int .i64 x.Exp], 5⟩, ⟨some ⟨b1, 0, none⟩, 83, [.int .i64 y.Num.A, .int .i64 y.Num.B, .int .i64 y.Num.C, .int .i64 y.Num.D, .int .i64 y.Exp], 5⟩, ⟨some ⟨b2, 0, none⟩, 83, [.int .i64 0, .int .i64 0, .int .i64 0, .int .i64 0, .int .i64 0], 5⟩, ⟨some ⟨b3, 0, none⟩, 81, [.int .i64 r_4.A, .int .i64 r_4.B, .int .i64 r_4.C, .int .i64 r_4.D], 4⟩, ⟨some ⟨b4, 0, none⟩, 81, [.int .i64 0, .int .i64 0, .int .i64 0, .int .i64 0], 4⟩] (Rf) := hS11
    refine ss0 rfl rfl (Ys_store (i := 4) (s := 4) (B := some ⟨b4, 0, none⟩) (T' := 81) (v := .agg #[.int .i64 r_6.A, .int .i64 r_6.B, .int .i64 r_6.C, .int .i64 r_6.D]) (vs := [.int .i64 r_6.A, .int .i64 r_6.B, .int .i64 r_6.C, .int .i64 r_6.D]) (k := 0) (cs' := [.int .i64 r_6.A, .int .i64 r_6.B, .int .i64 r_6.C, .int .i64 r_6.D]) hS11 k_sz_81_4 rfl rfl rfl rfl rfl rfl rfl (Nat.le_of_ble_eq_true rfl) rfl rfl) ?_
    rintro _ w_11 ⟨rfl, hS12⟩
    have hS12 : ST w0 [] _ [⟨some ⟨b, 0, none⟩, 83, [.int .i64 x.Num.A, .int .i64 x.Num.B, .int .i64 x.Num.C, .int .i64 x.Num.D, .int .i64 x.Exp], 5⟩, ⟨some ⟨b1, 0, none⟩, 83, [.int .i64 y.Num.A, .int .i64 y.Num.B, .int .i64 y.Num.C, .int .i64 y.Num.D, .int .i64 y.Exp], 5⟩, ⟨some ⟨b2, 0, none⟩, 83, [.int .i64 0, .int .i64 0, .int .i64 0, .int .i64 0, .int .i64 0], 5⟩, ⟨some ⟨b3, 0, none⟩, 81, [.int .i64 r_4.A, .int .i64 r_4.B, .int .i64 r_4.C, .int .i64 r_4.D], 4⟩, ⟨some ⟨b4, 0, none⟩, 81, [.int .i64 r_6.A, .int .i64 r_6.B, .int .i64 r_6.C, .int .i64 r_6.D], 4⟩] (Rf) := hS12
    refine sq 12 rfl rfl (Y_assign (v := .bool r_7) rfl rfl) ?_
    refine rw_nil ?_
    refine cw_seq ?_
    refine cw_region ?_
    refine sq 42 rfl rfl (Y_move (v := .func (.func kf) #[] caps) rfl rfl) ?_
    refine sq 43 rfl rfl (Y_loadA (B := some ⟨b3, 0, none⟩) (i := 0) (cs := [.int .i64 r_4.A, .int .i64 r_4.B, .int .i64 r_4.C, .int .i64 r_4.D]) (vs := [.int .i64 r_4.A, .int .i64 r_4.B, .int .i64 r_4.C, .int .i64 r_4.D]) k_ag_81 k_sz_81_4 rfl rfl (hS12.cf (i := 3) rfl) rfl rfl) ?_
    refine sq 44 rfl rfl (Y_loadA (B := some ⟨b4, 0, none⟩) (i := 0) (cs := [.int .i64 r_6.A, .int .i64 r_6.B, .int .i64 r_6.C, .int .i64 r_6.D]) (vs := [.int .i64 r_6.A, .int .i64 r_6.B, .int .i64 r_6.C, .int .i64 r_6.D]) k_ag_81 k_sz_81_4 rfl rfl (hS12.cf (i := 4) rfl) rfl rfl) ?_
    obtain ⟨⟨r_8, r_9⟩, hc4, hF2⟩ := bind_inv hF2
    refine sc 45 rfl rfl (Yc_clos (g := kf) (vs := (.agg #[.int .i64 r_4.A, .int .i64 r_4.B, .int .i64 r_4.C, .int .i64 r_4.D]) :: (.agg #[.int .i64 r_6.A, .int .i64 r_6.B, .int .i64 r_6.C, .int .i64 r_6.D]) :: caps.toList) hk rfl rfl (clo_args (mc rfl (mc rfl mn))) (hp _ (hS12.innS (fun _ h => List.mem_of_mem_drop (i := 0) h)) r_4 r_6 r_8 r_9 hc4)) ?_
    rintro _ w_12 ⟨rfl, hd3⟩
    have hS13 := hS12.out00 hd3
    have hS13 : ST w0 [] _ [⟨some ⟨b, 0, none⟩, 83, [.int .i64 x.Num.A, .int .i64 x.Num.B, .int .i64 x.Num.C, .int .i64 x.Num.D, .int .i64 x.Exp], 5⟩, ⟨some ⟨b1, 0, none⟩, 83, [.int .i64 y.Num.A, .int .i64 y.Num.B, .int .i64 y.Num.C, .int .i64 y.Num.D, .int .i64 y.Exp], 5⟩, ⟨some ⟨b2, 0, none⟩, 83, [.int .i64 0, .int .i64 0, .int .i64 0, .int .i64 0, .int .i64 0], 5⟩, ⟨some ⟨b3, 0, none⟩, 81, [.int .i64 r_4.A, .int .i64 r_4.B, .int .i64 r_4.C, .int .i64 r_4.D], 4⟩, ⟨some ⟨b4, 0, none⟩, 81, [.int .i64 r_6.A, .int .i64 r_6.B, .int .i64 r_6.C, .int .i64 r_6.D], 4⟩] (Rf) := hS13
    refine sq 41 rfl rfl (Y_move (v := .tuple #[.agg #[.int .i64 r_8.A, .int .i64 r_8.B, .int .i64 r_8.C, .int .i64 r_8.D], .bool r_9]) rfl rfl) ?_
    refine sq 46 rfl rfl (Y_extract (v := .agg #[.int .i64 r_8.A, .int .i64 r_8.B, .int .i64 r_8.C, .int .i64 r_8.D]) rfl rfl rfl) ?_
    refine sq 47 rfl rfl (Y_extract (v := .bool r_9) rfl rfl rfl) ?_
    refine ss 13 rfl rfl (Ys_alloc (T := 81) (cs := [.int .i64 0, .int .i64 0, .int .i64 0, .int .i64 0]) (m := 4) hS13 k_zero_81 rfl rfl rfl) ?_
    rintro _ w_13 ⟨b5, rfl, hS14⟩
    have hS14 : ST w0 [] _ [⟨some ⟨b, 0, none⟩, 83, [.int .i64 x.Num.A, .int .i64 x.Num.B, .int .i64 x.Num.C, .int .i64 x.Num.D, .int .i64 x.Exp], 5⟩, ⟨some ⟨b1, 0, none⟩, 83, [.int .i64 y.Num.A, .int .i64 y.Num.B, .int .i64 y.Num.C, .int .i64 y.Num.D, .int .i64 y.Exp], 5⟩, ⟨some ⟨b2, 0, none⟩, 83, [.int .i64 0, .int .i64 0, .int .i64 0, .int .i64 0, .int .i64 0], 5⟩, ⟨some ⟨b3, 0, none⟩, 81, [.int .i64 r_4.A, .int .i64 r_4.B, .int .i64 r_4.C, .int .i64 r_4.D], 4⟩, ⟨some ⟨b4, 0, none⟩, 81, [.int .i64 r_6.A, .int .i64 r_6.B, .int .i64 r_6.C, .int .i64 r_6.D], 4⟩, ⟨some ⟨b5, 0, none⟩, 81, [.int .i64 0, .int .i64 0, .int .i64 0, .int .i64 0], 4⟩] (Rf) := hS14
    refine ss0 rfl rfl (Ys_store (i := 5) (s := 4) (B := some ⟨b5, 0, none⟩) (T' := 81) (v := .agg #[.int .i64 r_8.A, .int .i64 r_8.B, .int .i64 r_8.C, .int .i64 r_8.D]) (vs := [.int .i64 r_8.A, .int .i64 r_8.B, .int .i64 r_8.C, .int .i64 r_8.D]) (k := 0) (cs' := [.int .i64 r_8.A, .int .i64 r_8.B, .int .i64 r_8.C, .int .i64 r_8.D]) hS14 k_sz_81_4 rfl rfl rfl rfl rfl rfl rfl (Nat.le_of_ble_eq_true rfl) rfl rfl) ?_
    rintro _ w_14 ⟨rfl, hS15⟩
    have hS15 : ST w0 [] _ [⟨some ⟨b, 0, none⟩, 83, [.int .i64 x.Num.A, .int .i64 x.Num.B, .int .i64 x.Num.C, .int .i64 x.Num.D, .int .i64 x.Exp], 5⟩, ⟨some ⟨b1, 0, none⟩, 83, [.int .i64 y.Num.A, .int .i64 y.Num.B, .int .i64 y.Num.C, .int .i64 y.Num.D, .int .i64 y.Exp], 5⟩, ⟨some ⟨b2, 0, none⟩, 83, [.int .i64 0, .int .i64 0, .int .i64 0, .int .i64 0, .int .i64 0], 5⟩, ⟨some ⟨b3, 0, none⟩, 81, [.int .i64 r_4.A, .int .i64 r_4.B, .int .i64 r_4.C, .int .i64 r_4.D], 4⟩, ⟨some ⟨b4, 0, none⟩, 81, [.int .i64 r_6.A, .int .i64 r_6.B, .int .i64 r_6.C, .int .i64 r_6.D], 4⟩, ⟨some ⟨b5, 0, none⟩, 81, [.int .i64 r_8.A, .int .i64 r_8.B, .int .i64 r_8.C, .int .i64 r_8.D], 4⟩] (Rf) := hS15
    refine sq 14 rfl rfl (Y_assign (v := .bool r_9) rfl rfl) ?_
    refine rw_nil ?_
    refine cw_seq ?_
    refine cw_seq ?_
    refine cw_region ?_
    refine sq 48 rfl rfl (Y_move (v := .bool r_5) rfl rfl) ?_
    refine sq 49 rfl rfl (Y_not (p := r_5) rfl rfl) ?_
    refine sq 50 rfl rfl (Y_move (v := .bool (!r_5)) rfl rfl) ?_
    refine sgq 51 (B := (!(!r_5))) (v := .bool r_7) rfl rfl (wt_f (gd_of (t := 50) (by kernel_rfl) rfl)) (fun hg3 => (Y_move (v := .bool r_7) rfl rfl)) ?_
    refine sgq 52 (B := (!(!r_5))) (v := .bool (!r_7)) rfl rfl (wt_f (gd_of (t := 50) (by kernel_rfl) rfl)) (fun hg4 => (Y_not (p := r_7) rfl (gv_of (B := (!(!r_5))) (v := .bool r_7) hg4))) ?_
    refine sq 53 rfl rfl (Y_or (b := (!r_5)) (z := (!r_7)) rfl rfl rfl rfl) ?_
    refine sq 54 rfl rfl (Y_move (v := .bool ((!r_5) || (!r_7))) rfl rfl) ?_
    refine sgq 55 (B := (!((!r_5) || (!r_7)))) (v := .bool r_9) rfl rfl (wt_f (gd_of (t := 54) (by kernel_rfl) rfl)) (fun hg5 => (Y_move (v := .bool r_9) rfl rfl)) ?_
    refine sgq 56 (B := (!((!r_5) || (!r_7)))) (v := .bool (!r_9)) rfl rfl (wt_f (gd_of (t := 54) (by kernel_rfl) rfl)) (fun hg6 => (Y_not (p := r_9) rfl (gv_of (B := (!((!r_5) || (!r_7)))) (v := .bool r_9) hg6))) ?_
    refine sq 57 rfl rfl (Y_or (b := ((!r_5) || (!r_7))) (z := (!r_9)) rfl rfl rfl rfl) ?_
    refine rw_nil ?_
    refine cw_cond (b := (((!r_5) || (!r_7)) || (!r_9))) rfl (fun hb1 => ?_) (fun hb1 => ?_)
    · skip
      have hF3 := ct hF2 hb1
      refine cw_seq ?_
      refine cw_region ?_
      refine sq 58 rfl rfl (Y_buildS (zs := [.int .i64 0, .int .i64 0, .int .i64 0, .int .i64 0, .int .i64 0]) (vs := []) (cs := [.int .i64 0, .int .i64 0, .int .i64 0, .int .i64 0, .int .i64 0]) k_pl_83 k_zero_83 rfl mpn rfl) ?_
      refine ss0 rfl rfl (Ys_store (i := 2) (s := 5) (B := some ⟨b2, 0, none⟩) (T' := 83) (v := .agg #[.int .i64 0, .int .i64 0, .int .i64 0, .int .i64 0, .int .i64 0]) (vs := [.int .i64 0, .int .i64 0, .int .i64 0, .int .i64 0, .int .i64 0]) (k := 0) (cs' := [.int .i64 0, .int .i64 0, .int .i64 0, .int .i64 0, .int .i64 0]) hS15 k_sz_83_5 rfl rfl rfl rfl rfl rfl rfl (Nat.le_of_ble_eq_true rfl) rfl rfl) ?_
      rintro _ w_15 ⟨rfl, hS16⟩
      have hS16 : ST w0 [] _ [⟨some ⟨b, 0, none⟩, 83, [.int .i64 x.Num.A, .int .i64 x.Num.B, .int .i64 x.Num.C, .int .i64 x.Num.D, .int .i64 x.Exp], 5⟩, ⟨some ⟨b1, 0, none⟩, 83, [.int .i64 y.Num.A, .int .i64 y.Num.B, .int .i64 y.Num.C, .int .i64 y.Num.D, .int .i64 y.Exp], 5⟩, ⟨some ⟨b2, 0, none⟩, 83, [.int .i64 0, .int .i64 0, .int .i64 0, .int .i64 0, .int .i64 0], 5⟩, ⟨some ⟨b3, 0, none⟩, 81, [.int .i64 r_4.A, .int .i64 r_4.B, .int .i64 r_4.C, .int .i64 r_4.D], 4⟩, ⟨some ⟨b4, 0, none⟩, 81, [.int .i64 r_6.A, .int .i64 r_6.B, .int .i64 r_6.C, .int .i64 r_6.D], 4⟩, ⟨some ⟨b5, 0, none⟩, 81, [.int .i64 r_8.A, .int .i64 r_8.B, .int .i64 r_8.C, .int .i64 r_8.D], 4⟩] (Rf) := hS16
      refine sq 7 rfl rfl (Y_assign (v := .bool false) rfl rfl) ?_
      refine rw_nil ?_
      refine cw_ret ?_
      obtain ⟨rfl, rfl⟩ := pr2 (some_inj hF3)
      exact ret2 Try.results186 (v1 := .agg #[.int .i64 0, .int .i64 0, .int .i64 0, .int .i64 0, .int .i64 0]) (resAt_cellA (B := some ⟨b2, 0, none⟩) (i := 0) (cs := [.int .i64 0, .int .i64 0, .int .i64 0, .int .i64 0, .int .i64 0]) (vs := [.int .i64 0, .int .i64 0, .int .i64 0, .int .i64 0, .int .i64 0]) rfl k_ag_83 k_sz_83_5 (hS16.cf (i := 2) rfl) rfl rfl) (v2 := .bool false) (resAt_tmp rfl) ⟨rfl, (ST.subR (R' := []) (hS16.sel [] rfl rfl) (fun _ h => by cases h))⟩
    · skip
      have hF4 := cf' hF2 hb1
      refine cw_skip ?_
      refine cw_seq ?_
      refine cw_region ?_
      refine sq 59 rfl rfl (Y_loadA (B := some ⟨b5, 0, none⟩) (i := 0) (cs := [.int .i64 r_8.A, .int .i64 r_8.B, .int .i64 r_8.C, .int .i64 r_8.D]) (vs := [.int .i64 r_8.A, .int .i64 r_8.B, .int .i64 r_8.C, .int .i64 r_8.D]) k_ag_81 k_sz_81_4 rfl rfl (hS15.cf (i := 5) rfl) rfl rfl) ?_
      refine sq 60 rfl rfl (Y_move (v := .int .i64 (if x.Exp < y.Exp then y.Exp else x.Exp)) rfl rfl) ?_
      obtain ⟨⟨r_10, r_11⟩, hc5, hF4⟩ := bind_inv hF4
      refine sc 61 rfl rfl (Yc_func (g := 223) (vs := [.agg #[.int .i64 r_8.A, .int .i64 r_8.B, .int .i64 r_8.C, .int .i64 r_8.D], .int .i64 (if x.Exp < y.Exp then y.Exp else x.Exp)]) k_call_223 rfl (mc rfl (mc rfl mn)) (c_impl_DyadicOf r_8 (if x.Exp < y.Exp then y.Exp else x.Exp) _  (hS15.inn0 [] rfl) hc5)) ?_
      rintro _ w_16 ⟨rfl, hd4⟩
      have hS17 := hS15.out00 hd4
      have hS17 : ST w0 [] _ [⟨some ⟨b, 0, none⟩, 83, [.int .i64 x.Num.A, .int .i64 x.Num.B, .int .i64 x.Num.C, .int .i64 x.Num.D, .int .i64 x.Exp], 5⟩, ⟨some ⟨b1, 0, none⟩, 83, [.int .i64 y.Num.A, .int .i64 y.Num.B, .int .i64 y.Num.C, .int .i64 y.Num.D, .int .i64 y.Exp], 5⟩, ⟨some ⟨b2, 0, none⟩, 83, [.int .i64 0, .int .i64 0, .int .i64 0, .int .i64 0, .int .i64 0], 5⟩, ⟨some ⟨b3, 0, none⟩, 81, [.int .i64 r_4.A, .int .i64 r_4.B, .int .i64 r_4.C, .int .i64 r_4.D], 4⟩, ⟨some ⟨b4, 0, none⟩, 81, [.int .i64 r_6.A, .int .i64 r_6.B, .int .i64 r_6.C, .int .i64 r_6.D], 4⟩, ⟨some ⟨b5, 0, none⟩, 81, [.int .i64 r_8.A, .int .i64 r_8.B, .int .i64 r_8.C, .int .i64 r_8.D], 4⟩] (Rf) := hS17
      refine sq 62 rfl rfl (Y_extract (v := .agg #[.int .i64 r_10.Num.A, .int .i64 r_10.Num.B, .int .i64 r_10.Num.C, .int .i64 r_10.Num.D, .int .i64 r_10.Exp]) rfl rfl rfl) ?_
      refine sq 63 rfl rfl (Y_extract (v := .bool r_11) rfl rfl rfl) ?_
      refine ss0 rfl rfl (Ys_store (i := 2) (s := 5) (B := some ⟨b2, 0, none⟩) (T' := 83) (v := .agg #[.int .i64 r_10.Num.A, .int .i64 r_10.Num.B, .int .i64 r_10.Num.C, .int .i64 r_10.Num.D, .int .i64 r_10.Exp]) (vs := [.int .i64 r_10.Num.A, .int .i64 r_10.Num.B, .int .i64 r_10.Num.C, .int .i64 r_10.Num.D, .int .i64 r_10.Exp]) (k := 0) (cs' := [.int .i64 r_10.Num.A, .int .i64 r_10.Num.B, .int .i64 r_10.Num.C, .int .i64 r_10.Num.D, .int .i64 r_10.Exp]) hS17 k_sz_83_5 rfl rfl rfl rfl rfl rfl rfl (Nat.le_of_ble_eq_true rfl) rfl rfl) ?_
      rintro _ w_17 ⟨rfl, hS18⟩
      have hS18 : ST w0 [] _ [⟨some ⟨b, 0, none⟩, 83, [.int .i64 x.Num.A, .int .i64 x.Num.B, .int .i64 x.Num.C, .int .i64 x.Num.D, .int .i64 x.Exp], 5⟩, ⟨some ⟨b1, 0, none⟩, 83, [.int .i64 y.Num.A, .int .i64 y.Num.B, .int .i64 y.Num.C, .int .i64 y.Num.D, .int .i64 y.Exp], 5⟩, ⟨some ⟨b2, 0, none⟩, 83, [.int .i64 r_10.Num.A, .int .i64 r_10.Num.B, .int .i64 r_10.Num.C, .int .i64 r_10.Num.D, .int .i64 r_10.Exp], 5⟩, ⟨some ⟨b3, 0, none⟩, 81, [.int .i64 r_4.A, .int .i64 r_4.B, .int .i64 r_4.C, .int .i64 r_4.D], 4⟩, ⟨some ⟨b4, 0, none⟩, 81, [.int .i64 r_6.A, .int .i64 r_6.B, .int .i64 r_6.C, .int .i64 r_6.D], 4⟩, ⟨some ⟨b5, 0, none⟩, 81, [.int .i64 r_8.A, .int .i64 r_8.B, .int .i64 r_8.C, .int .i64 r_8.D], 4⟩] (Rf) := hS18
      refine sq 7 rfl rfl (Y_assign (v := .bool r_11) rfl rfl) ?_
      refine rw_nil ?_
      refine cw_ret ?_
      obtain ⟨rfl, rfl⟩ := pr2 (some_inj hF4)
      exact ret2 Try.results186 (v1 := .agg #[.int .i64 r_10.Num.A, .int .i64 r_10.Num.B, .int .i64 r_10.Num.C, .int .i64 r_10.Num.D, .int .i64 r_10.Exp]) (resAt_cellA (B := some ⟨b2, 0, none⟩) (i := 0) (cs := [.int .i64 r_10.Num.A, .int .i64 r_10.Num.B, .int .i64 r_10.Num.C, .int .i64 r_10.Num.D, .int .i64 r_10.Exp]) (vs := [.int .i64 r_10.Num.A, .int .i64 r_10.Num.B, .int .i64 r_10.Num.C, .int .i64 r_10.Num.D, .int .i64 r_10.Exp]) rfl k_ag_83 k_sz_83_5 (hS18.cf (i := 2) rfl) rfl rfl) (v2 := .bool r_11) (resAt_tmp rfl) ⟨rfl, (ST.subR (R' := []) (hS18.sel [] rfl rfl) (fun _ h => by cases h))⟩

theorem c_impl_AddRing (x : TRing) (y : TRing)  (w0 : World)  (hS : ST w0 [] w0 [] []) {r_ : TRing} {r_1 : Bool} (hF : F_impl_AddRing x y = some (r_, r_1)) :
    CV Try.prog 187 #[.agg #[.int .i64 x.A, .int .i64 x.B, .int .i64 x.C, .int .i64 x.D], .agg #[.int .i64 y.A, .int .i64 y.B, .int .i64 y.C, .int .i64 y.D]] w0 (fun v w' => v = .tuple #[.agg #[.int .i64 r_.A, .int .i64 r_.B, .int .i64 r_.C, .int .i64 r_.D], .bool r_1] ∧ ST w0 [] w' [] []) := by
  unfold F_impl_AddRing at hF
  refine cv_of_cw 33 Try.func187 rfl Try.ntmps187 rfl ?_
  refine cw_seq ?_
  refine cw_region ?_
  refine ss 2 rfl rfl (Ys_box (T := 81) (v := .agg #[.int .i64 x.A, .int .i64 x.B, .int .i64 x.C, .int .i64 x.D]) (cs := [.int .i64 x.A, .int .i64 x.B, .int .i64 x.C, .int .i64 x.D]) (m := 4) hS rfl rfl rfl rfl) ?_
  rintro _ w_ ⟨b, rfl, hS1⟩
  refine ss 3 rfl rfl (Ys_box (T := 81) (v := .agg #[.int .i64 y.A, .int .i64 y.B, .int .i64 y.C, .int .i64 y.D]) (cs := [.int .i64 y.A, .int .i64 y.B, .int .i64 y.C, .int .i64 y.D]) (m := 4) hS1 rfl rfl rfl rfl) ?_
  rintro _ w_1 ⟨b1, rfl, hS2⟩
  have hS2 : ST w0 [] _ [⟨some ⟨b, 0, none⟩, 81, [.int .i64 x.A, .int .i64 x.B, .int .i64 x.C, .int .i64 x.D], 4⟩, ⟨some ⟨b1, 0, none⟩, 81, [.int .i64 y.A, .int .i64 y.B, .int .i64 y.C, .int .i64 y.D], 4⟩] [] := hS2
  refine ss 4 rfl rfl (Ys_alloc (T := 81) (cs := [.int .i64 0, .int .i64 0, .int .i64 0, .int .i64 0]) (m := 4) hS2 k_zero_81 rfl rfl rfl) ?_
  rintro _ w_2 ⟨b2, rfl, hS3⟩
  have hS3 : ST w0 [] _ [⟨some ⟨b, 0, none⟩, 81, [.int .i64 x.A, .int .i64 x.B, .int .i64 x.C, .int .i64 x.D], 4⟩, ⟨some ⟨b1, 0, none⟩, 81, [.int .i64 y.A, .int .i64 y.B, .int .i64 y.C, .int .i64 y.D], 4⟩, ⟨some ⟨b2, 0, none⟩, 81, [.int .i64 0, .int .i64 0, .int .i64 0, .int .i64 0], 4⟩] [] := hS3
  refine sq 5 rfl rfl (Y_assign (v := .bool false) rfl rfl) ?_
  refine rw_nil ?_
  refine cw_seq ?_
  refine cw_region ?_
  refine sq 6 rfl rfl (Y_fieldAddr (B := some ⟨b, 0, none⟩) (i := 0) (s := 0) k_fd_81_0_0_3 k_sz_3_1 rfl rfl) ?_
  refine sq 7 rfl rfl (Y_load1 (B := some ⟨b, 0, none⟩) (i := 0) (cs := [.int .i64 x.A, .int .i64 x.B, .int .i64 x.C, .int .i64 x.D]) (v := .int .i64 x.A) k_sc_3 rfl rfl (hS3.cf (i := 0) rfl) rfl) ?_
  refine sq 8 rfl rfl (Y_fieldAddr (B := some ⟨b1, 0, none⟩) (i := 0) (s := 0) k_fd_81_0_0_3 k_sz_3_1 rfl rfl) ?_
  refine sq 9 rfl rfl (Y_load1 (B := some ⟨b1, 0, none⟩) (i := 0) (cs := [.int .i64 y.A, .int .i64 y.B, .int .i64 y.C, .int .i64 y.D]) (v := .int .i64 y.A) k_sc_3 rfl rfl (hS3.cf (i := 1) rfl) rfl) ?_
  refine sq 10 rfl rfl (Y_add (k := .i64) (a := x.A) (b := y.A) rfl rfl rfl) ?_
  refine sq 11 rfl rfl (Y_fieldAddr (B := some ⟨b, 0, none⟩) (i := 0) (s := 0) k_fd_81_1_1_3 k_sz_3_1 rfl rfl) ?_
  refine sq 12 rfl rfl (Y_load1 (B := some ⟨b, 0, none⟩) (i := 1) (cs := [.int .i64 x.A, .int .i64 x.B, .int .i64 x.C, .int .i64 x.D]) (v := .int .i64 x.B) k_sc_3 rfl rfl (hS3.cf (i := 0) rfl) rfl) ?_
  refine sq 13 rfl rfl (Y_fieldAddr (B := some ⟨b1, 0, none⟩) (i := 0) (s := 0) k_fd_81_1_1_3 k_sz_3_1 rfl rfl) ?_
  refine sq 14 rfl rfl (Y_load1 (B := some ⟨b1, 0, none⟩) (i := 1) (cs := [.int .i64 y.A, .int .i64 y.B, .int .i64 y.C, .int .i64 y.D]) (v := .int .i64 y.B) k_sc_3 rfl rfl (hS3.cf (i := 1) rfl) rfl) ?_
  refine sq 15 rfl rfl (Y_add (k := .i64) (a := x.B) (b := y.B) rfl rfl rfl) ?_
  refine sq 16 rfl rfl (Y_fieldAddr (B := some ⟨b, 0, none⟩) (i := 0) (s := 0) k_fd_81_2_2_3 k_sz_3_1 rfl rfl) ?_
  refine sq 17 rfl rfl (Y_load1 (B := some ⟨b, 0, none⟩) (i := 2) (cs := [.int .i64 x.A, .int .i64 x.B, .int .i64 x.C, .int .i64 x.D]) (v := .int .i64 x.C) k_sc_3 rfl rfl (hS3.cf (i := 0) rfl) rfl) ?_
  refine sq 18 rfl rfl (Y_fieldAddr (B := some ⟨b1, 0, none⟩) (i := 0) (s := 0) k_fd_81_2_2_3 k_sz_3_1 rfl rfl) ?_
  refine sq 19 rfl rfl (Y_load1 (B := some ⟨b1, 0, none⟩) (i := 2) (cs := [.int .i64 y.A, .int .i64 y.B, .int .i64 y.C, .int .i64 y.D]) (v := .int .i64 y.C) k_sc_3 rfl rfl (hS3.cf (i := 1) rfl) rfl) ?_
  refine sq 20 rfl rfl (Y_add (k := .i64) (a := x.C) (b := y.C) rfl rfl rfl) ?_
  refine sq 21 rfl rfl (Y_fieldAddr (B := some ⟨b, 0, none⟩) (i := 0) (s := 0) k_fd_81_3_3_3 k_sz_3_1 rfl rfl) ?_
  refine sq 22 rfl rfl (Y_load1 (B := some ⟨b, 0, none⟩) (i := 3) (cs := [.int .i64 x.A, .int .i64 x.B, .int .i64 x.C, .int .i64 x.D]) (v := .int .i64 x.D) k_sc_3 rfl rfl (hS3.cf (i := 0) rfl) rfl) ?_
  refine sq 23 rfl rfl (Y_fieldAddr (B := some ⟨b1, 0, none⟩) (i := 0) (s := 0) k_fd_81_3_3_3 k_sz_3_1 rfl rfl) ?_
  refine sq 24 rfl rfl (Y_load1 (B := some ⟨b1, 0, none⟩) (i := 3) (cs := [.int .i64 y.A, .int .i64 y.B, .int .i64 y.C, .int .i64 y.D]) (v := .int .i64 y.D) k_sc_3 rfl rfl (hS3.cf (i := 1) rfl) rfl) ?_
  refine sq 25 rfl rfl (Y_add (k := .i64) (a := x.D) (b := y.D) rfl rfl rfl) ?_
  refine sq 26 rfl rfl (Y_buildS (zs := [.int .i64 0, .int .i64 0, .int .i64 0, .int .i64 0]) (vs := [(0, .int .i64 (IntKind.i64.wrap (x.A + y.A))), (1, .int .i64 (IntKind.i64.wrap (x.B + y.B))), (2, .int .i64 (IntKind.i64.wrap (x.C + y.C))), (3, .int .i64 (IntKind.i64.wrap (x.D + y.D)))]) (cs := [.int .i64 (IntKind.i64.wrap (x.A + y.A)), .int .i64 (IntKind.i64.wrap (x.B + y.B)), .int .i64 (IntKind.i64.wrap (x.C + y.C)), .int .i64 (IntKind.i64.wrap (x.D + y.D))]) k_pl_81 k_zero_81 rfl (mpc rfl (mpc rfl (mpc rfl (mpc rfl mpn)))) rfl) ?_
  refine sq 27 rfl rfl (Y_loadA (B := some ⟨b, 0, none⟩) (i := 0) (cs := [.int .i64 x.A, .int .i64 x.B, .int .i64 x.C, .int .i64 x.D]) (vs := [.int .i64 x.A, .int .i64 x.B, .int .i64 x.C, .int .i64 x.D]) k_ag_81 k_sz_81_4 rfl rfl (hS3.cf (i := 0) rfl) rfl rfl) ?_
  refine sq 28 rfl rfl (Y_loadA (B := some ⟨b1, 0, none⟩) (i := 0) (cs := [.int .i64 y.A, .int .i64 y.B, .int .i64 y.C, .int .i64 y.D]) (vs := [.int .i64 y.A, .int .i64 y.B, .int .i64 y.C, .int .i64 y.D]) k_ag_81 k_sz_81_4 rfl rfl (hS3.cf (i := 1) rfl) rfl rfl) ?_
  refine ss 29 rfl rfl (Ys_bslice (s := 4) (len := 2) (vs := [(0, .agg #[.int .i64 x.A, .int .i64 x.B, .int .i64 x.C, .int .i64 x.D]), (1, .agg #[.int .i64 y.A, .int .i64 y.B, .int .i64 y.C, .int .i64 y.D])]) (cs := [.int .i64 x.A, .int .i64 x.B, .int .i64 x.C, .int .i64 x.D, .int .i64 y.A, .int .i64 y.B, .int .i64 y.C, .int .i64 y.D]) (zs := [.int .i64 0, .int .i64 0, .int .i64 0, .int .i64 0, .int .i64 0, .int .i64 0, .int .i64 0, .int .i64 0]) (m := 8) hS3 k_sl_287_81 k_sz_81_4 k_zc_81 rfl (mpc rfl (mpc rfl mpn)) rfl rfl rfl (by kernel_rfl) (by kernel_rfl) rfl) ?_
  rintro _ w_3 ⟨b3, rfl, hS4⟩
  have hS4 : ST w0 [] _ [⟨some ⟨b, 0, none⟩, 81, [.int .i64 x.A, .int .i64 x.B, .int .i64 x.C, .int .i64 x.D], 4⟩, ⟨some ⟨b1, 0, none⟩, 81, [.int .i64 y.A, .int .i64 y.B, .int .i64 y.C, .int .i64 y.D], 4⟩, ⟨some ⟨b2, 0, none⟩, 81, [.int .i64 0, .int .i64 0, .int .i64 0, .int .i64 0], 4⟩, ⟨some ⟨b3, 0, none⟩, 81, ([x, y].flatMap enc_Ring), 2 * 4⟩] [] := hS4
  obtain ⟨⟨r_2, r_3⟩, hc, hF⟩ := bind_inv hF
  refine sc 30 rfl rfl (Yc_func (g := 247) (vs := [.agg #[.int .i64 (IntKind.i64.wrap (x.A + y.A)), .int .i64 (IntKind.i64.wrap (x.B + y.B)), .int .i64 (IntKind.i64.wrap (x.C + y.C)), .int .i64 (IntKind.i64.wrap (x.D + y.D))], .slice (some ⟨b3, 0, none⟩) 2 2]) k_call_247 rfl (mc rfl (mc rfl mn)) (c_impl_ringIf (TRing.mk (IntKind.i64.wrap (x.A + y.A)) (IntKind.i64.wrap (x.B + y.B)) (IntKind.i64.wrap (x.C + y.C)) (IntKind.i64.wrap (x.D + y.D))) [x, y] (some ⟨b3, 0, none⟩) 2 2 _ rfl (hS4.inn [false, false, false, true] rfl [] rfl) hc)) ?_
  rintro _ w_4 ⟨rfl, hd⟩
  have hS5 := hS4.out [false, false, false, true] rfl hd
  have hS5 : ST w0 [] _ [⟨some ⟨b, 0, none⟩, 81, [.int .i64 x.A, .int .i64 x.B, .int .i64 x.C, .int .i64 x.D], 4⟩, ⟨some ⟨b1, 0, none⟩, 81, [.int .i64 y.A, .int .i64 y.B, .int .i64 y.C, .int .i64 y.D], 4⟩, ⟨some ⟨b2, 0, none⟩, 81, [.int .i64 0, .int .i64 0, .int .i64 0, .int .i64 0], 4⟩] [] := hS5
  refine sq 31 rfl rfl (Y_extract (v := .agg #[.int .i64 r_2.A, .int .i64 r_2.B, .int .i64 r_2.C, .int .i64 r_2.D]) rfl rfl rfl) ?_
  refine sq 32 rfl rfl (Y_extract (v := .bool r_3) rfl rfl rfl) ?_
  refine ss0 rfl rfl (Ys_store (i := 2) (s := 4) (B := some ⟨b2, 0, none⟩) (T' := 81) (v := .agg #[.int .i64 r_2.A, .int .i64 r_2.B, .int .i64 r_2.C, .int .i64 r_2.D]) (vs := [.int .i64 r_2.A, .int .i64 r_2.B, .int .i64 r_2.C, .int .i64 r_2.D]) (k := 0) (cs' := [.int .i64 r_2.A, .int .i64 r_2.B, .int .i64 r_2.C, .int .i64 r_2.D]) hS5 k_sz_81_4 rfl rfl rfl rfl rfl rfl rfl (Nat.le_of_ble_eq_true rfl) rfl rfl) ?_
  rintro _ w_5 ⟨rfl, hS6⟩
  have hS6 : ST w0 [] _ [⟨some ⟨b, 0, none⟩, 81, [.int .i64 x.A, .int .i64 x.B, .int .i64 x.C, .int .i64 x.D], 4⟩, ⟨some ⟨b1, 0, none⟩, 81, [.int .i64 y.A, .int .i64 y.B, .int .i64 y.C, .int .i64 y.D], 4⟩, ⟨some ⟨b2, 0, none⟩, 81, [.int .i64 r_2.A, .int .i64 r_2.B, .int .i64 r_2.C, .int .i64 r_2.D], 4⟩] [] := hS6
  refine sq 5 rfl rfl (Y_assign (v := .bool r_3) rfl rfl) ?_
  refine rw_nil ?_
  refine cw_ret ?_
  obtain ⟨rfl, rfl⟩ := pr2 (some_inj hF)
  exact ret2 Try.results187 (v1 := .agg #[.int .i64 r_2.A, .int .i64 r_2.B, .int .i64 r_2.C, .int .i64 r_2.D]) (resAt_cellA (B := some ⟨b2, 0, none⟩) (i := 0) (cs := [.int .i64 r_2.A, .int .i64 r_2.B, .int .i64 r_2.C, .int .i64 r_2.D]) (vs := [.int .i64 r_2.A, .int .i64 r_2.B, .int .i64 r_2.C, .int .i64 r_2.D]) rfl k_ag_81 k_sz_81_4 (hS6.cf (i := 2) rfl) rfl rfl) (v2 := .bool r_3) (resAt_tmp rfl) ⟨rfl, (ST.subR (R' := []) (hS6.sel [] rfl rfl) (fun _ h => by cases h))⟩

theorem c_impl_AddDyadic (x : TDyadic) (y : TDyadic)  (w0 : World)  (hS : ST w0 [] w0 [] []) {r_ : TDyadic} {r_1 : Bool} (hF : F_impl_AddDyadic x y = some (r_, r_1)) :
    CV Try.prog 116 #[.agg #[.int .i64 x.Num.A, .int .i64 x.Num.B, .int .i64 x.Num.C, .int .i64 x.Num.D, .int .i64 x.Exp], .agg #[.int .i64 y.Num.A, .int .i64 y.Num.B, .int .i64 y.Num.C, .int .i64 y.Num.D, .int .i64 y.Exp]] w0 (fun v w' => v = .tuple #[.agg #[.int .i64 r_.Num.A, .int .i64 r_.Num.B, .int .i64 r_.Num.C, .int .i64 r_.Num.D, .int .i64 r_.Exp], .bool r_1] ∧ ST w0 [] w' [] []) := by
  unfold F_impl_AddDyadic at hF
  refine cv_of_cw 11 Try.func116 rfl Try.ntmps116 rfl ?_
  refine cw_seq ?_
  refine cw_region ?_
  refine ss 2 rfl rfl (Ys_box (T := 83) (v := .agg #[.int .i64 x.Num.A, .int .i64 x.Num.B, .int .i64 x.Num.C, .int .i64 x.Num.D, .int .i64 x.Exp]) (cs := [.int .i64 x.Num.A, .int .i64 x.Num.B, .int .i64 x.Num.C, .int .i64 x.Num.D, .int .i64 x.Exp]) (m := 5) hS rfl rfl rfl rfl) ?_
  rintro _ w_ ⟨b, rfl, hS1⟩
  refine ss 3 rfl rfl (Ys_box (T := 83) (v := .agg #[.int .i64 y.Num.A, .int .i64 y.Num.B, .int .i64 y.Num.C, .int .i64 y.Num.D, .int .i64 y.Exp]) (cs := [.int .i64 y.Num.A, .int .i64 y.Num.B, .int .i64 y.Num.C, .int .i64 y.Num.D, .int .i64 y.Exp]) (m := 5) hS1 rfl rfl rfl rfl) ?_
  rintro _ w_1 ⟨b1, rfl, hS2⟩
  have hS2 : ST w0 [] _ [⟨some ⟨b, 0, none⟩, 83, [.int .i64 x.Num.A, .int .i64 x.Num.B, .int .i64 x.Num.C, .int .i64 x.Num.D, .int .i64 x.Exp], 5⟩, ⟨some ⟨b1, 0, none⟩, 83, [.int .i64 y.Num.A, .int .i64 y.Num.B, .int .i64 y.Num.C, .int .i64 y.Num.D, .int .i64 y.Exp], 5⟩] [] := hS2
  refine ss 4 rfl rfl (Ys_alloc (T := 83) (cs := [.int .i64 0, .int .i64 0, .int .i64 0, .int .i64 0, .int .i64 0]) (m := 5) hS2 k_zero_83 rfl rfl rfl) ?_
  rintro _ w_2 ⟨b2, rfl, hS3⟩
  have hS3 : ST w0 [] _ [⟨some ⟨b, 0, none⟩, 83, [.int .i64 x.Num.A, .int .i64 x.Num.B, .int .i64 x.Num.C, .int .i64 x.Num.D, .int .i64 x.Exp], 5⟩, ⟨some ⟨b1, 0, none⟩, 83, [.int .i64 y.Num.A, .int .i64 y.Num.B, .int .i64 y.Num.C, .int .i64 y.Num.D, .int .i64 y.Exp], 5⟩, ⟨some ⟨b2, 0, none⟩, 83, [.int .i64 0, .int .i64 0, .int .i64 0, .int .i64 0, .int .i64 0], 5⟩] [] := hS3
  refine sq 5 rfl rfl (Y_assign (v := .bool false) rfl rfl) ?_
  refine rw_nil ?_
  refine cw_seq ?_
  refine cw_region ?_
  refine sq 6 rfl rfl (Y_loadA (B := some ⟨b, 0, none⟩) (i := 0) (cs := [.int .i64 x.Num.A, .int .i64 x.Num.B, .int .i64 x.Num.C, .int .i64 x.Num.D, .int .i64 x.Exp]) (vs := [.int .i64 x.Num.A, .int .i64 x.Num.B, .int .i64 x.Num.C, .int .i64 x.Num.D, .int .i64 x.Exp]) k_ag_83 k_sz_83_5 rfl rfl (hS3.cf (i := 0) rfl) rfl rfl) ?_
  refine sq 7 rfl rfl (Y_loadA (B := some ⟨b1, 0, none⟩) (i := 0) (cs := [.int .i64 y.Num.A, .int .i64 y.Num.B, .int .i64 y.Num.C, .int .i64 y.Num.D, .int .i64 y.Exp]) (vs := [.int .i64 y.Num.A, .int .i64 y.Num.B, .int .i64 y.Num.C, .int .i64 y.Num.D, .int .i64 y.Exp]) k_ag_83 k_sz_83_5 rfl rfl (hS3.cf (i := 1) rfl) rfl rfl) ?_
  obtain ⟨⟨r_2, r_3⟩, hc, hF⟩ := bind_inv hF
  refine sc 8 rfl rfl (Yc_func (g := 186) (vs := [.agg #[.int .i64 x.Num.A, .int .i64 x.Num.B, .int .i64 x.Num.C, .int .i64 x.Num.D, .int .i64 x.Exp], .agg #[.int .i64 y.Num.A, .int .i64 y.Num.B, .int .i64 y.Num.C, .int .i64 y.Num.D, .int .i64 y.Exp], .func (.func 187) #[] #[]]) k_call_186 rfl (mc rfl (mc rfl (mc rfl mn))) (c_impl_combined x y F_impl_AddRing 187 (#[]) [] _ k_call_187 (fun w hw x_0 x_1 y_0 y_1 h_ => c_impl_AddRing x_0 x_1  w  hw h_) (hS3.inn0 [] rfl) hc)) ?_
  rintro _ w_3 ⟨rfl, hd⟩
  have hS4 := hS3.out00 hd
  have hS4 : ST w0 [] _ [⟨some ⟨b, 0, none⟩, 83, [.int .i64 x.Num.A, .int .i64 x.Num.B, .int .i64 x.Num.C, .int .i64 x.Num.D, .int .i64 x.Exp], 5⟩, ⟨some ⟨b1, 0, none⟩, 83, [.int .i64 y.Num.A, .int .i64 y.Num.B, .int .i64 y.Num.C, .int .i64 y.Num.D, .int .i64 y.Exp], 5⟩, ⟨some ⟨b2, 0, none⟩, 83, [.int .i64 0, .int .i64 0, .int .i64 0, .int .i64 0, .int .i64 0], 5⟩] [] := hS4
  refine sq 9 rfl rfl (Y_extract (v := .agg #[.int .i64 r_2.Num.A, .int .i64 r_2.Num.B, .int .i64 r_2.Num.C, .int .i64 r_2.Num.D, .int .i64 r_2.Exp]) rfl rfl rfl) ?_
  refine sq 10 rfl rfl (Y_extract (v := .bool r_3) rfl rfl rfl) ?_
  refine ss0 rfl rfl (Ys_store (i := 2) (s := 5) (B := some ⟨b2, 0, none⟩) (T' := 83) (v := .agg #[.int .i64 r_2.Num.A, .int .i64 r_2.Num.B, .int .i64 r_2.Num.C, .int .i64 r_2.Num.D, .int .i64 r_2.Exp]) (vs := [.int .i64 r_2.Num.A, .int .i64 r_2.Num.B, .int .i64 r_2.Num.C, .int .i64 r_2.Num.D, .int .i64 r_2.Exp]) (k := 0) (cs' := [.int .i64 r_2.Num.A, .int .i64 r_2.Num.B, .int .i64 r_2.Num.C, .int .i64 r_2.Num.D, .int .i64 r_2.Exp]) hS4 k_sz_83_5 rfl rfl rfl rfl rfl rfl rfl (Nat.le_of_ble_eq_true rfl) rfl rfl) ?_
  rintro _ w_4 ⟨rfl, hS5⟩
  have hS5 : ST w0 [] _ [⟨some ⟨b, 0, none⟩, 83, [.int .i64 x.Num.A, .int .i64 x.Num.B, .int .i64 x.Num.C, .int .i64 x.Num.D, .int .i64 x.Exp], 5⟩, ⟨some ⟨b1, 0, none⟩, 83, [.int .i64 y.Num.A, .int .i64 y.Num.B, .int .i64 y.Num.C, .int .i64 y.Num.D, .int .i64 y.Exp], 5⟩, ⟨some ⟨b2, 0, none⟩, 83, [.int .i64 r_2.Num.A, .int .i64 r_2.Num.B, .int .i64 r_2.Num.C, .int .i64 r_2.Num.D, .int .i64 r_2.Exp], 5⟩] [] := hS5
  refine sq 5 rfl rfl (Y_assign (v := .bool r_3) rfl rfl) ?_
  refine rw_nil ?_
  refine cw_ret ?_
  obtain ⟨rfl, rfl⟩ := pr2 (some_inj hF)
  exact ret2 Try.results116 (v1 := .agg #[.int .i64 r_2.Num.A, .int .i64 r_2.Num.B, .int .i64 r_2.Num.C, .int .i64 r_2.Num.D, .int .i64 r_2.Exp]) (resAt_cellA (B := some ⟨b2, 0, none⟩) (i := 0) (cs := [.int .i64 r_2.Num.A, .int .i64 r_2.Num.B, .int .i64 r_2.Num.C, .int .i64 r_2.Num.D, .int .i64 r_2.Exp]) (vs := [.int .i64 r_2.Num.A, .int .i64 r_2.Num.B, .int .i64 r_2.Num.C, .int .i64 r_2.Num.D, .int .i64 r_2.Exp]) rfl k_ag_83 k_sz_83_5 (hS5.cf (i := 2) rfl) rfl rfl) (v2 := .bool r_3) (resAt_tmp rfl) ⟨rfl, (ST.subR (R' := []) (hS5.sel [] rfl rfl) (fun _ h => by cases h))⟩

theorem c_impl_MulRing (x : TRing) (y : TRing)  (w0 : World)  (hS : ST w0 [] w0 [] []) {r_ : TRing} {r_1 : Bool} (hF : F_impl_MulRing x y = some (r_, r_1)) :
    CV Try.prog 222 #[.agg #[.int .i64 x.A, .int .i64 x.B, .int .i64 x.C, .int .i64 x.D], .agg #[.int .i64 y.A, .int .i64 y.B, .int .i64 y.C, .int .i64 y.D]] w0 (fun v w' => v = .tuple #[.agg #[.int .i64 r_.A, .int .i64 r_.B, .int .i64 r_.C, .int .i64 r_.D], .bool r_1] ∧ ST w0 [] w' [] []) := by
  unfold F_impl_MulRing at hF
  refine cv_of_cw 105 Try.func222 rfl Try.ntmps222 rfl ?_
  refine cw_seq ?_
  refine cw_region ?_
  refine ss 2 rfl rfl (Ys_box (T := 81) (v := .agg #[.int .i64 x.A, .int .i64 x.B, .int .i64 x.C, .int .i64 x.D]) (cs := [.int .i64 x.A, .int .i64 x.B, .int .i64 x.C, .int .i64 x.D]) (m := 4) hS rfl rfl rfl rfl) ?_
  rintro _ w_ ⟨b, rfl, hS1⟩
  refine ss 3 rfl rfl (Ys_box (T := 81) (v := .agg #[.int .i64 y.A, .int .i64 y.B, .int .i64 y.C, .int .i64 y.D]) (cs := [.int .i64 y.A, .int .i64 y.B, .int .i64 y.C, .int .i64 y.D]) (m := 4) hS1 rfl rfl rfl rfl) ?_
  rintro _ w_1 ⟨b1, rfl, hS2⟩
  have hS2 : ST w0 [] _ [⟨some ⟨b, 0, none⟩, 81, [.int .i64 x.A, .int .i64 x.B, .int .i64 x.C, .int .i64 x.D], 4⟩, ⟨some ⟨b1, 0, none⟩, 81, [.int .i64 y.A, .int .i64 y.B, .int .i64 y.C, .int .i64 y.D], 4⟩] [] := hS2
  refine ss 4 rfl rfl (Ys_alloc (T := 81) (cs := [.int .i64 0, .int .i64 0, .int .i64 0, .int .i64 0]) (m := 4) hS2 k_zero_81 rfl rfl rfl) ?_
  rintro _ w_2 ⟨b2, rfl, hS3⟩
  have hS3 : ST w0 [] _ [⟨some ⟨b, 0, none⟩, 81, [.int .i64 x.A, .int .i64 x.B, .int .i64 x.C, .int .i64 x.D], 4⟩, ⟨some ⟨b1, 0, none⟩, 81, [.int .i64 y.A, .int .i64 y.B, .int .i64 y.C, .int .i64 y.D], 4⟩, ⟨some ⟨b2, 0, none⟩, 81, [.int .i64 0, .int .i64 0, .int .i64 0, .int .i64 0], 4⟩] [] := hS3
  refine sq 5 rfl rfl (Y_assign (v := .bool false) rfl rfl) ?_
  refine rw_nil ?_
  refine cw_seq ?_
  refine cw_region ?_
  refine sq 6 rfl rfl (Y_fieldAddr (B := some ⟨b, 0, none⟩) (i := 0) (s := 0) k_fd_81_0_0_3 k_sz_3_1 rfl rfl) ?_
  refine sq 7 rfl rfl (Y_load1 (B := some ⟨b, 0, none⟩) (i := 0) (cs := [.int .i64 x.A, .int .i64 x.B, .int .i64 x.C, .int .i64 x.D]) (v := .int .i64 x.A) k_sc_3 rfl rfl (hS3.cf (i := 0) rfl) rfl) ?_
  refine sq 8 rfl rfl (Y_fieldAddr (B := some ⟨b1, 0, none⟩) (i := 0) (s := 0) k_fd_81_0_0_3 k_sz_3_1 rfl rfl) ?_
  refine sq 9 rfl rfl (Y_load1 (B := some ⟨b1, 0, none⟩) (i := 0) (cs := [.int .i64 y.A, .int .i64 y.B, .int .i64 y.C, .int .i64 y.D]) (v := .int .i64 y.A) k_sc_3 rfl rfl (hS3.cf (i := 1) rfl) rfl) ?_
  refine sq 10 rfl rfl (Y_mul (k := .i64) (a := x.A) (b := y.A) rfl rfl rfl) ?_
  refine sq 11 rfl rfl (Y_fieldAddr (B := some ⟨b, 0, none⟩) (i := 0) (s := 0) k_fd_81_1_1_3 k_sz_3_1 rfl rfl) ?_
  refine sq 12 rfl rfl (Y_load1 (B := some ⟨b, 0, none⟩) (i := 1) (cs := [.int .i64 x.A, .int .i64 x.B, .int .i64 x.C, .int .i64 x.D]) (v := .int .i64 x.B) k_sc_3 rfl rfl (hS3.cf (i := 0) rfl) rfl) ?_
  refine sq 13 rfl rfl (Y_fieldAddr (B := some ⟨b1, 0, none⟩) (i := 0) (s := 0) k_fd_81_3_3_3 k_sz_3_1 rfl rfl) ?_
  refine sq 14 rfl rfl (Y_load1 (B := some ⟨b1, 0, none⟩) (i := 3) (cs := [.int .i64 y.A, .int .i64 y.B, .int .i64 y.C, .int .i64 y.D]) (v := .int .i64 y.D) k_sc_3 rfl rfl (hS3.cf (i := 1) rfl) rfl) ?_
  refine sq 15 rfl rfl (Y_mul (k := .i64) (a := x.B) (b := y.D) rfl rfl rfl) ?_
  refine sq 16 rfl rfl (Y_sub (k := .i64) (a := (IntKind.i64.wrap (x.A * y.A))) (b := (IntKind.i64.wrap (x.B * y.D))) rfl rfl rfl) ?_
  refine sq 17 rfl rfl (Y_fieldAddr (B := some ⟨b, 0, none⟩) (i := 0) (s := 0) k_fd_81_2_2_3 k_sz_3_1 rfl rfl) ?_
  refine sq 18 rfl rfl (Y_load1 (B := some ⟨b, 0, none⟩) (i := 2) (cs := [.int .i64 x.A, .int .i64 x.B, .int .i64 x.C, .int .i64 x.D]) (v := .int .i64 x.C) k_sc_3 rfl rfl (hS3.cf (i := 0) rfl) rfl) ?_
  refine sq 19 rfl rfl (Y_fieldAddr (B := some ⟨b1, 0, none⟩) (i := 0) (s := 0) k_fd_81_2_2_3 k_sz_3_1 rfl rfl) ?_
  refine sq 20 rfl rfl (Y_load1 (B := some ⟨b1, 0, none⟩) (i := 2) (cs := [.int .i64 y.A, .int .i64 y.B, .int .i64 y.C, .int .i64 y.D]) (v := .int .i64 y.C) k_sc_3 rfl rfl (hS3.cf (i := 1) rfl) rfl) ?_
  refine sq 21 rfl rfl (Y_mul (k := .i64) (a := x.C) (b := y.C) rfl rfl rfl) ?_
  refine sq 22 rfl rfl (Y_sub (k := .i64) (a := (IntKind.i64.wrap ((IntKind.i64.wrap (x.A * y.A)) - (IntKind.i64.wrap (x.B * y.D))))) (b := (IntKind.i64.wrap (x.C * y.C))) rfl rfl rfl) ?_
  refine sq 23 rfl rfl (Y_fieldAddr (B := some ⟨b, 0, none⟩) (i := 0) (s := 0) k_fd_81_3_3_3 k_sz_3_1 rfl rfl) ?_
  refine sq 24 rfl rfl (Y_load1 (B := some ⟨b, 0, none⟩) (i := 3) (cs := [.int .i64 x.A, .int .i64 x.B, .int .i64 x.C, .int .i64 x.D]) (v := .int .i64 x.D) k_sc_3 rfl rfl (hS3.cf (i := 0) rfl) rfl) ?_
  refine sq 25 rfl rfl (Y_fieldAddr (B := some ⟨b1, 0, none⟩) (i := 0) (s := 0) k_fd_81_1_1_3 k_sz_3_1 rfl rfl) ?_
  refine sq 26 rfl rfl (Y_load1 (B := some ⟨b1, 0, none⟩) (i := 1) (cs := [.int .i64 y.A, .int .i64 y.B, .int .i64 y.C, .int .i64 y.D]) (v := .int .i64 y.B) k_sc_3 rfl rfl (hS3.cf (i := 1) rfl) rfl) ?_
  refine sq 27 rfl rfl (Y_mul (k := .i64) (a := x.D) (b := y.B) rfl rfl rfl) ?_
  refine sq 28 rfl rfl (Y_sub (k := .i64) (a := (IntKind.i64.wrap ((IntKind.i64.wrap ((IntKind.i64.wrap (x.A * y.A)) - (IntKind.i64.wrap (x.B * y.D)))) - (IntKind.i64.wrap (x.C * y.C))))) (b := (IntKind.i64.wrap (x.D * y.B))) rfl rfl rfl) ?_
  refine sq 29 rfl rfl (Y_fieldAddr (B := some ⟨b, 0, none⟩) (i := 0) (s := 0) k_fd_81_0_0_3 k_sz_3_1 rfl rfl) ?_
  refine sq 30 rfl rfl (Y_load1 (B := some ⟨b, 0, none⟩) (i := 0) (cs := [.int .i64 x.A, .int .i64 x.B, .int .i64 x.C, .int .i64 x.D]) (v := .int .i64 x.A) k_sc_3 rfl rfl (hS3.cf (i := 0) rfl) rfl) ?_
  refine sq 31 rfl rfl (Y_fieldAddr (B := some ⟨b1, 0, none⟩) (i := 0) (s := 0) k_fd_81_1_1_3 k_sz_3_1 rfl rfl) ?_
  refine sq 32 rfl rfl (Y_load1 (B := some ⟨b1, 0, none⟩) (i := 1) (cs := [.int .i64 y.A, .int .i64 y.B, .int .i64 y.C, .int .i64 y.D]) (v := .int .i64 y.B) k_sc_3 rfl rfl (hS3.cf (i := 1) rfl) rfl) ?_
  refine sq 33 rfl rfl (Y_mul (k := .i64) (a := x.A) (b := y.B) rfl rfl rfl) ?_
  refine sq 34 rfl rfl (Y_fieldAddr (B := some ⟨b, 0, none⟩) (i := 0) (s := 0) k_fd_81_1_1_3 k_sz_3_1 rfl rfl) ?_
  refine sq 35 rfl rfl (Y_load1 (B := some ⟨b, 0, none⟩) (i := 1) (cs := [.int .i64 x.A, .int .i64 x.B, .int .i64 x.C, .int .i64 x.D]) (v := .int .i64 x.B) k_sc_3 rfl rfl (hS3.cf (i := 0) rfl) rfl) ?_
  refine sq 36 rfl rfl (Y_fieldAddr (B := some ⟨b1, 0, none⟩) (i := 0) (s := 0) k_fd_81_0_0_3 k_sz_3_1 rfl rfl) ?_
  refine sq 37 rfl rfl (Y_load1 (B := some ⟨b1, 0, none⟩) (i := 0) (cs := [.int .i64 y.A, .int .i64 y.B, .int .i64 y.C, .int .i64 y.D]) (v := .int .i64 y.A) k_sc_3 rfl rfl (hS3.cf (i := 1) rfl) rfl) ?_
  refine sq 38 rfl rfl (Y_mul (k := .i64) (a := x.B) (b := y.A) rfl rfl rfl) ?_
  refine sq 39 rfl rfl (Y_add (k := .i64) (a := (IntKind.i64.wrap (x.A * y.B))) (b := (IntKind.i64.wrap (x.B * y.A))) rfl rfl rfl) ?_
  refine sq 40 rfl rfl (Y_fieldAddr (B := some ⟨b, 0, none⟩) (i := 0) (s := 0) k_fd_81_2_2_3 k_sz_3_1 rfl rfl) ?_
  refine sq 41 rfl rfl (Y_load1 (B := some ⟨b, 0, none⟩) (i := 2) (cs := [.int .i64 x.A, .int .i64 x.B, .int .i64 x.C, .int .i64 x.D]) (v := .int .i64 x.C) k_sc_3 rfl rfl (hS3.cf (i := 0) rfl) rfl) ?_
  refine sq 42 rfl rfl (Y_fieldAddr (B := some ⟨b1, 0, none⟩) (i := 0) (s := 0) k_fd_81_3_3_3 k_sz_3_1 rfl rfl) ?_
  refine sq 43 rfl rfl (Y_load1 (B := some ⟨b1, 0, none⟩) (i := 3) (cs := [.int .i64 y.A, .int .i64 y.B, .int .i64 y.C, .int .i64 y.D]) (v := .int .i64 y.D) k_sc_3 rfl rfl (hS3.cf (i := 1) rfl) rfl) ?_
  refine sq 44 rfl rfl (Y_mul (k := .i64) (a := x.C) (b := y.D) rfl rfl rfl) ?_
  refine sq 45 rfl rfl (Y_sub (k := .i64) (a := (IntKind.i64.wrap ((IntKind.i64.wrap (x.A * y.B)) + (IntKind.i64.wrap (x.B * y.A))))) (b := (IntKind.i64.wrap (x.C * y.D))) rfl rfl rfl) ?_
  refine sq 46 rfl rfl (Y_fieldAddr (B := some ⟨b, 0, none⟩) (i := 0) (s := 0) k_fd_81_3_3_3 k_sz_3_1 rfl rfl) ?_
  refine sq 47 rfl rfl (Y_load1 (B := some ⟨b, 0, none⟩) (i := 3) (cs := [.int .i64 x.A, .int .i64 x.B, .int .i64 x.C, .int .i64 x.D]) (v := .int .i64 x.D) k_sc_3 rfl rfl (hS3.cf (i := 0) rfl) rfl) ?_
  refine sq 48 rfl rfl (Y_fieldAddr (B := some ⟨b1, 0, none⟩) (i := 0) (s := 0) k_fd_81_2_2_3 k_sz_3_1 rfl rfl) ?_
  refine sq 49 rfl rfl (Y_load1 (B := some ⟨b1, 0, none⟩) (i := 2) (cs := [.int .i64 y.A, .int .i64 y.B, .int .i64 y.C, .int .i64 y.D]) (v := .int .i64 y.C) k_sc_3 rfl rfl (hS3.cf (i := 1) rfl) rfl) ?_
  refine sq 50 rfl rfl (Y_mul (k := .i64) (a := x.D) (b := y.C) rfl rfl rfl) ?_
  refine sq 51 rfl rfl (Y_sub (k := .i64) (a := (IntKind.i64.wrap ((IntKind.i64.wrap ((IntKind.i64.wrap (x.A * y.B)) + (IntKind.i64.wrap (x.B * y.A)))) - (IntKind.i64.wrap (x.C * y.D))))) (b := (IntKind.i64.wrap (x.D * y.C))) rfl rfl rfl) ?_
  refine sq 52 rfl rfl (Y_fieldAddr (B := some ⟨b, 0, none⟩) (i := 0) (s := 0) k_fd_81_0_0_3 k_sz_3_1 rfl rfl) ?_
  refine sq 53 rfl rfl (Y_load1 (B := some ⟨b, 0, none⟩) (i := 0) (cs := [.int .i64 x.A, .int .i64 x.B, .int .i64 x.C, .int .i64 x.D]) (v := .int .i64 x.A) k_sc_3 rfl rfl (hS3.cf (i := 0) rfl) rfl) ?_
  refine sq 54 rfl rfl (Y_fieldAddr (B := some ⟨b1, 0, none⟩) (i := 0) (s := 0) k_fd_81_2_2_3 k_sz_3_1 rfl rfl) ?_
  refine sq 55 rfl rfl (Y_load1 (B := some ⟨b1, 0, none⟩) (i := 2) (cs := [.int .i64 y.A, .int .i64 y.B, .int .i64 y.C, .int .i64 y.D]) (v := .int .i64 y.C) k_sc_3 rfl rfl (hS3.cf (i := 1) rfl) rfl) ?_
  refine sq 56 rfl rfl (Y_mul (k := .i64) (a := x.A) (b := y.C) rfl rfl rfl) ?_
  refine sq 57 rfl rfl (Y_fieldAddr (B := some ⟨b, 0, none⟩) (i := 0) (s := 0) k_fd_81_1_1_3 k_sz_3_1 rfl rfl) ?_
  refine sq 58 rfl rfl (Y_load1 (B := some ⟨b, 0, none⟩) (i := 1) (cs := [.int .i64 x.A, .int .i64 x.B, .int .i64 x.C, .int .i64 x.D]) (v := .int .i64 x.B) k_sc_3 rfl rfl (hS3.cf (i := 0) rfl) rfl) ?_
  refine sq 59 rfl rfl (Y_fieldAddr (B := some ⟨b1, 0, none⟩) (i := 0) (s := 0) k_fd_81_1_1_3 k_sz_3_1 rfl rfl) ?_
  refine sq 60 rfl rfl (Y_load1 (B := some ⟨b1, 0, none⟩) (i := 1) (cs := [.int .i64 y.A, .int .i64 y.B, .int .i64 y.C, .int .i64 y.D]) (v := .int .i64 y.B) k_sc_3 rfl rfl (hS3.cf (i := 1) rfl) rfl) ?_
  refine sq 61 rfl rfl (Y_mul (k := .i64) (a := x.B) (b := y.B) rfl rfl rfl) ?_
  refine sq 62 rfl rfl (Y_add (k := .i64) (a := (IntKind.i64.wrap (x.A * y.C))) (b := (IntKind.i64.wrap (x.B * y.B))) rfl rfl rfl) ?_
  refine sq 63 rfl rfl (Y_fieldAddr (B := some ⟨b, 0, none⟩) (i := 0) (s := 0) k_fd_81_2_2_3 k_sz_3_1 rfl rfl) ?_
  refine sq 64 rfl rfl (Y_load1 (B := some ⟨b, 0, none⟩) (i := 2) (cs := [.int .i64 x.A, .int .i64 x.B, .int .i64 x.C, .int .i64 x.D]) (v := .int .i64 x.C) k_sc_3 rfl rfl (hS3.cf (i := 0) rfl) rfl) ?_
  refine sq 65 rfl rfl (Y_fieldAddr (B := some ⟨b1, 0, none⟩) (i := 0) (s := 0) k_fd_81_0_0_3 k_sz_3_1 rfl rfl) ?_
  refine sq 66 rfl rfl (Y_load1 (B := some ⟨b1, 0, none⟩) (i := 0) (cs := [.int .i64 y.A, .int .i64 y.B, .int .i64 y.C, .int .i64 y.D]) (v := .int .i64 y.A) k_sc_3 rfl rfl (hS3.cf (i := 1) rfl) rfl) ?_
  refine sq 67 rfl rfl (Y_mul (k := .i64) (a := x.C) (b := y.A) rfl rfl rfl) ?_
  refine sq 68 rfl rfl (Y_add (k := .i64) (a := (IntKind.i64.wrap ((IntKind.i64.wrap (x.A * y.C)) + (IntKind.i64.wrap (x.B * y.B))))) (b := (IntKind.i64.wrap (x.C * y.A))) rfl rfl rfl) ?_
  refine sq 69 rfl rfl (Y_fieldAddr (B := some ⟨b, 0, none⟩) (i := 0) (s := 0) k_fd_81_3_3_3 k_sz_3_1 rfl rfl) ?_
  refine sq 70 rfl rfl (Y_load1 (B := some ⟨b, 0, none⟩) (i := 3) (cs := [.int .i64 x.A, .int .i64 x.B, .int .i64 x.C, .int .i64 x.D]) (v := .int .i64 x.D) k_sc_3 rfl rfl (hS3.cf (i := 0) rfl) rfl) ?_
  refine sq 71 rfl rfl (Y_fieldAddr (B := some ⟨b1, 0, none⟩) (i := 0) (s := 0) k_fd_81_3_3_3 k_sz_3_1 rfl rfl) ?_
  refine sq 72 rfl rfl (Y_load1 (B := some ⟨b1, 0, none⟩) (i := 3) (cs := [.int .i64 y.A, .int .i64 y.B, .int .i64 y.C, .int .i64 y.D]) (v := .int .i64 y.D) k_sc_3 rfl rfl (hS3.cf (i := 1) rfl) rfl) ?_
  refine sq 73 rfl rfl (Y_mul (k := .i64) (a := x.D) (b := y.D) rfl rfl rfl) ?_
  refine sq 74 rfl rfl (Y_sub (k := .i64) (a := (IntKind.i64.wrap ((IntKind.i64.wrap ((IntKind.i64.wrap (x.A * y.C)) + (IntKind.i64.wrap (x.B * y.B)))) + (IntKind.i64.wrap (x.C * y.A))))) (b := (IntKind.i64.wrap (x.D * y.D))) rfl rfl rfl) ?_
  refine sq 75 rfl rfl (Y_fieldAddr (B := some ⟨b, 0, none⟩) (i := 0) (s := 0) k_fd_81_0_0_3 k_sz_3_1 rfl rfl) ?_
  refine sq 76 rfl rfl (Y_load1 (B := some ⟨b, 0, none⟩) (i := 0) (cs := [.int .i64 x.A, .int .i64 x.B, .int .i64 x.C, .int .i64 x.D]) (v := .int .i64 x.A) k_sc_3 rfl rfl (hS3.cf (i := 0) rfl) rfl) ?_
  refine sq 77 rfl rfl (Y_fieldAddr (B := some ⟨b1, 0, none⟩) (i := 0) (s := 0) k_fd_81_3_3_3 k_sz_3_1 rfl rfl) ?_
  refine sq 78 rfl rfl (Y_load1 (B := some ⟨b1, 0, none⟩) (i := 3) (cs := [.int .i64 y.A, .int .i64 y.B, .int .i64 y.C, .int .i64 y.D]) (v := .int .i64 y.D) k_sc_3 rfl rfl (hS3.cf (i := 1) rfl) rfl) ?_
  refine sq 79 rfl rfl (Y_mul (k := .i64) (a := x.A) (b := y.D) rfl rfl rfl) ?_
  refine sq 80 rfl rfl (Y_fieldAddr (B := some ⟨b, 0, none⟩) (i := 0) (s := 0) k_fd_81_1_1_3 k_sz_3_1 rfl rfl) ?_
  refine sq 81 rfl rfl (Y_load1 (B := some ⟨b, 0, none⟩) (i := 1) (cs := [.int .i64 x.A, .int .i64 x.B, .int .i64 x.C, .int .i64 x.D]) (v := .int .i64 x.B) k_sc_3 rfl rfl (hS3.cf (i := 0) rfl) rfl) ?_
  refine sq 82 rfl rfl (Y_fieldAddr (B := some ⟨b1, 0, none⟩) (i := 0) (s := 0) k_fd_81_2_2_3 k_sz_3_1 rfl rfl) ?_
  refine sq 83 rfl rfl (Y_load1 (B := some ⟨b1, 0, none⟩) (i := 2) (cs := [.int .i64 y.A, .int .i64 y.B, .int .i64 y.C, .int .i64 y.D]) (v := .int .i64 y.C) k_sc_3 rfl rfl (hS3.cf (i := 1) rfl) rfl) ?_
  refine sq 84 rfl rfl (Y_mul (k := .i64) (a := x.B) (b := y.C) rfl rfl rfl) ?_
  refine sq 85 rfl rfl (Y_add (k := .i64) (a := (IntKind.i64.wrap (x.A * y.D))) (b := (IntKind.i64.wrap (x.B * y.C))) rfl rfl rfl) ?_
  refine sq 86 rfl rfl (Y_fieldAddr (B := some ⟨b, 0, none⟩) (i := 0) (s := 0) k_fd_81_2_2_3 k_sz_3_1 rfl rfl) ?_
  refine sq 87 rfl rfl (Y_load1 (B := some ⟨b, 0, none⟩) (i := 2) (cs := [.int .i64 x.A, .int .i64 x.B, .int .i64 x.C, .int .i64 x.D]) (v := .int .i64 x.C) k_sc_3 rfl rfl (hS3.cf (i := 0) rfl) rfl) ?_
  refine sq 88 rfl rfl (Y_fieldAddr (B := some ⟨b1, 0, none⟩) (i := 0) (s := 0) k_fd_81_1_1_3 k_sz_3_1 rfl rfl) ?_
  refine sq 89 rfl rfl (Y_load1 (B := some ⟨b1, 0, none⟩) (i := 1) (cs := [.int .i64 y.A, .int .i64 y.B, .int .i64 y.C, .int .i64 y.D]) (v := .int .i64 y.B) k_sc_3 rfl rfl (hS3.cf (i := 1) rfl) rfl) ?_
  refine sq 90 rfl rfl (Y_mul (k := .i64) (a := x.C) (b := y.B) rfl rfl rfl) ?_
  refine sq 91 rfl rfl (Y_add (k := .i64) (a := (IntKind.i64.wrap ((IntKind.i64.wrap (x.A * y.D)) + (IntKind.i64.wrap (x.B * y.C))))) (b := (IntKind.i64.wrap (x.C * y.B))) rfl rfl rfl) ?_
  refine sq 92 rfl rfl (Y_fieldAddr (B := some ⟨b, 0, none⟩) (i := 0) (s := 0) k_fd_81_3_3_3 k_sz_3_1 rfl rfl) ?_
  refine sq 93 rfl rfl (Y_load1 (B := some ⟨b, 0, none⟩) (i := 3) (cs := [.int .i64 x.A, .int .i64 x.B, .int .i64 x.C, .int .i64 x.D]) (v := .int .i64 x.D) k_sc_3 rfl rfl (hS3.cf (i := 0) rfl) rfl) ?_
  refine sq 94 rfl rfl (Y_fieldAddr (B := some ⟨b1, 0, none⟩) (i := 0) (s := 0) k_fd_81_0_0_3 k_sz_3_1 rfl rfl) ?_
  refine sq 95 rfl rfl (Y_load1 (B := some ⟨b1, 0, none⟩) (i := 0) (cs := [.int .i64 y.A, .int .i64 y.B, .int .i64 y.C, .int .i64 y.D]) (v := .int .i64 y.A) k_sc_3 rfl rfl (hS3.cf (i := 1) rfl) rfl) ?_
  refine sq 96 rfl rfl (Y_mul (k := .i64) (a := x.D) (b := y.A) rfl rfl rfl) ?_
  refine sq 97 rfl rfl (Y_add (k := .i64) (a := (IntKind.i64.wrap ((IntKind.i64.wrap ((IntKind.i64.wrap (x.A * y.D)) + (IntKind.i64.wrap (x.B * y.C)))) + (IntKind.i64.wrap (x.C * y.B))))) (b := (IntKind.i64.wrap (x.D * y.A))) rfl rfl rfl) ?_
  refine sq 98 rfl rfl (Y_buildS (zs := [.int .i64 0, .int .i64 0, .int .i64 0, .int .i64 0]) (vs := [(0, .int .i64 (IntKind.i64.wrap ((IntKind.i64.wrap ((IntKind.i64.wrap ((IntKind.i64.wrap (x.A * y.A)) - (IntKind.i64.wrap (x.B * y.D)))) - (IntKind.i64.wrap (x.C * y.C)))) - (IntKind.i64.wrap (x.D * y.B))))), (1, .int .i64 (IntKind.i64.wrap ((IntKind.i64.wrap ((IntKind.i64.wrap ((IntKind.i64.wrap (x.A * y.B)) + (IntKind.i64.wrap (x.B * y.A)))) - (IntKind.i64.wrap (x.C * y.D)))) - (IntKind.i64.wrap (x.D * y.C))))), (2, .int .i64 (IntKind.i64.wrap ((IntKind.i64.wrap ((IntKind.i64.wrap ((IntKind.i64.wrap (x.A * y.C)) + (IntKind.i64.wrap (x.B * y.B)))) + (IntKind.i64.wrap (x.C * y.A)))) - (IntKind.i64.wrap (x.D * y.D))))), (3, .int .i64 (IntKind.i64.wrap ((IntKind.i64.wrap ((IntKind.i64.wrap ((IntKind.i64.wrap (x.A * y.D)) + (IntKind.i64.wrap (x.B * y.C)))) + (IntKind.i64.wrap (x.C * y.B)))) + (IntKind.i64.wrap (x.D * y.A)))))]) (cs := [.int .i64 (IntKind.i64.wrap ((IntKind.i64.wrap ((IntKind.i64.wrap ((IntKind.i64.wrap (x.A * y.A)) - (IntKind.i64.wrap (x.B * y.D)))) - (IntKind.i64.wrap (x.C * y.C)))) - (IntKind.i64.wrap (x.D * y.B)))), .int .i64 (IntKind.i64.wrap ((IntKind.i64.wrap ((IntKind.i64.wrap ((IntKind.i64.wrap (x.A * y.B)) + (IntKind.i64.wrap (x.B * y.A)))) - (IntKind.i64.wrap (x.C * y.D)))) - (IntKind.i64.wrap (x.D * y.C)))), .int .i64 (IntKind.i64.wrap ((IntKind.i64.wrap ((IntKind.i64.wrap ((IntKind.i64.wrap (x.A * y.C)) + (IntKind.i64.wrap (x.B * y.B)))) + (IntKind.i64.wrap (x.C * y.A)))) - (IntKind.i64.wrap (x.D * y.D)))), .int .i64 (IntKind.i64.wrap ((IntKind.i64.wrap ((IntKind.i64.wrap ((IntKind.i64.wrap (x.A * y.D)) + (IntKind.i64.wrap (x.B * y.C)))) + (IntKind.i64.wrap (x.C * y.B)))) + (IntKind.i64.wrap (x.D * y.A))))]) k_pl_81 k_zero_81 rfl (mpc rfl (mpc rfl (mpc rfl (mpc rfl mpn)))) rfl) ?_
  refine sq 99 rfl rfl (Y_loadA (B := some ⟨b, 0, none⟩) (i := 0) (cs := [.int .i64 x.A, .int .i64 x.B, .int .i64 x.C, .int .i64 x.D]) (vs := [.int .i64 x.A, .int .i64 x.B, .int .i64 x.C, .int .i64 x.D]) k_ag_81 k_sz_81_4 rfl rfl (hS3.cf (i := 0) rfl) rfl rfl) ?_
  refine sq 100 rfl rfl (Y_loadA (B := some ⟨b1, 0, none⟩) (i := 0) (cs := [.int .i64 y.A, .int .i64 y.B, .int .i64 y.C, .int .i64 y.D]) (vs := [.int .i64 y.A, .int .i64 y.B, .int .i64 y.C, .int .i64 y.D]) k_ag_81 k_sz_81_4 rfl rfl (hS3.cf (i := 1) rfl) rfl rfl) ?_
  refine ss 101 rfl rfl (Ys_bslice (s := 4) (len := 2) (vs := [(0, .agg #[.int .i64 x.A, .int .i64 x.B, .int .i64 x.C, .int .i64 x.D]), (1, .agg #[.int .i64 y.A, .int .i64 y.B, .int .i64 y.C, .int .i64 y.D])]) (cs := [.int .i64 x.A, .int .i64 x.B, .int .i64 x.C, .int .i64 x.D, .int .i64 y.A, .int .i64 y.B, .int .i64 y.C, .int .i64 y.D]) (zs := [.int .i64 0, .int .i64 0, .int .i64 0, .int .i64 0, .int .i64 0, .int .i64 0, .int .i64 0, .int .i64 0]) (m := 8) hS3 k_sl_287_81 k_sz_81_4 k_zc_81 rfl (mpc rfl (mpc rfl mpn)) rfl rfl rfl (by kernel_rfl) (by kernel_rfl) rfl) ?_
  rintro _ w_3 ⟨b3, rfl, hS4⟩
  have hS4 : ST w0 [] _ [⟨some ⟨b, 0, none⟩, 81, [.int .i64 x.A, .int .i64 x.B, .int .i64 x.C, .int .i64 x.D], 4⟩, ⟨some ⟨b1, 0, none⟩, 81, [.int .i64 y.A, .int .i64 y.B, .int .i64 y.C, .int .i64 y.D], 4⟩, ⟨some ⟨b2, 0, none⟩, 81, [.int .i64 0, .int .i64 0, .int .i64 0, .int .i64 0], 4⟩, ⟨some ⟨b3, 0, none⟩, 81, ([x, y].flatMap enc_Ring), 2 * 4⟩] [] := hS4
  obtain ⟨⟨r_2, r_3⟩, hc, hF⟩ := bind_inv hF
  refine sc 102 rfl rfl (Yc_func (g := 247) (vs := [.agg #[.int .i64 (IntKind.i64.wrap ((IntKind.i64.wrap ((IntKind.i64.wrap ((IntKind.i64.wrap (x.A * y.A)) - (IntKind.i64.wrap (x.B * y.D)))) - (IntKind.i64.wrap (x.C * y.C)))) - (IntKind.i64.wrap (x.D * y.B)))), .int .i64 (IntKind.i64.wrap ((IntKind.i64.wrap ((IntKind.i64.wrap ((IntKind.i64.wrap (x.A * y.B)) + (IntKind.i64.wrap (x.B * y.A)))) - (IntKind.i64.wrap (x.C * y.D)))) - (IntKind.i64.wrap (x.D * y.C)))), .int .i64 (IntKind.i64.wrap ((IntKind.i64.wrap ((IntKind.i64.wrap ((IntKind.i64.wrap (x.A * y.C)) + (IntKind.i64.wrap (x.B * y.B)))) + (IntKind.i64.wrap (x.C * y.A)))) - (IntKind.i64.wrap (x.D * y.D)))), .int .i64 (IntKind.i64.wrap ((IntKind.i64.wrap ((IntKind.i64.wrap ((IntKind.i64.wrap (x.A * y.D)) + (IntKind.i64.wrap (x.B * y.C)))) + (IntKind.i64.wrap (x.C * y.B)))) + (IntKind.i64.wrap (x.D * y.A))))], .slice (some ⟨b3, 0, none⟩) 2 2]) k_call_247 rfl (mc rfl (mc rfl mn)) (c_impl_ringIf (TRing.mk (IntKind.i64.wrap ((IntKind.i64.wrap ((IntKind.i64.wrap ((IntKind.i64.wrap (x.A * y.A)) - (IntKind.i64.wrap (x.B * y.D)))) - (IntKind.i64.wrap (x.C * y.C)))) - (IntKind.i64.wrap (x.D * y.B)))) (IntKind.i64.wrap ((IntKind.i64.wrap ((IntKind.i64.wrap ((IntKind.i64.wrap (x.A * y.B)) + (IntKind.i64.wrap (x.B * y.A)))) - (IntKind.i64.wrap (x.C * y.D)))) - (IntKind.i64.wrap (x.D * y.C)))) (IntKind.i64.wrap ((IntKind.i64.wrap ((IntKind.i64.wrap ((IntKind.i64.wrap (x.A * y.C)) + (IntKind.i64.wrap (x.B * y.B)))) + (IntKind.i64.wrap (x.C * y.A)))) - (IntKind.i64.wrap (x.D * y.D)))) (IntKind.i64.wrap ((IntKind.i64.wrap ((IntKind.i64.wrap ((IntKind.i64.wrap (x.A * y.D)) + (IntKind.i64.wrap (x.B * y.C)))) + (IntKind.i64.wrap (x.C * y.B)))) + (IntKind.i64.wrap (x.D * y.A))))) [x, y] (some ⟨b3, 0, none⟩) 2 2 _ rfl (hS4.inn [false, false, false, true] rfl [] rfl) hc)) ?_
  rintro _ w_4 ⟨rfl, hd⟩
  have hS5 := hS4.out [false, false, false, true] rfl hd
  have hS5 : ST w0 [] _ [⟨some ⟨b, 0, none⟩, 81, [.int .i64 x.A, .int .i64 x.B, .int .i64 x.C, .int .i64 x.D], 4⟩, ⟨some ⟨b1, 0, none⟩, 81, [.int .i64 y.A, .int .i64 y.B, .int .i64 y.C, .int .i64 y.D], 4⟩, ⟨some ⟨b2, 0, none⟩, 81, [.int .i64 0, .int .i64 0, .int .i64 0, .int .i64 0], 4⟩] [] := hS5
  refine sq 103 rfl rfl (Y_extract (v := .agg #[.int .i64 r_2.A, .int .i64 r_2.B, .int .i64 r_2.C, .int .i64 r_2.D]) rfl rfl rfl) ?_
  refine sq 104 rfl rfl (Y_extract (v := .bool r_3) rfl rfl rfl) ?_
  refine ss0 rfl rfl (Ys_store (i := 2) (s := 4) (B := some ⟨b2, 0, none⟩) (T' := 81) (v := .agg #[.int .i64 r_2.A, .int .i64 r_2.B, .int .i64 r_2.C, .int .i64 r_2.D]) (vs := [.int .i64 r_2.A, .int .i64 r_2.B, .int .i64 r_2.C, .int .i64 r_2.D]) (k := 0) (cs' := [.int .i64 r_2.A, .int .i64 r_2.B, .int .i64 r_2.C, .int .i64 r_2.D]) hS5 k_sz_81_4 rfl rfl rfl rfl rfl rfl rfl (Nat.le_of_ble_eq_true rfl) rfl rfl) ?_
  rintro _ w_5 ⟨rfl, hS6⟩
  have hS6 : ST w0 [] _ [⟨some ⟨b, 0, none⟩, 81, [.int .i64 x.A, .int .i64 x.B, .int .i64 x.C, .int .i64 x.D], 4⟩, ⟨some ⟨b1, 0, none⟩, 81, [.int .i64 y.A, .int .i64 y.B, .int .i64 y.C, .int .i64 y.D], 4⟩, ⟨some ⟨b2, 0, none⟩, 81, [.int .i64 r_2.A, .int .i64 r_2.B, .int .i64 r_2.C, .int .i64 r_2.D], 4⟩] [] := hS6
  refine sq 5 rfl rfl (Y_assign (v := .bool r_3) rfl rfl) ?_
  refine rw_nil ?_
  refine cw_ret ?_
  obtain ⟨rfl, rfl⟩ := pr2 (some_inj hF)
  exact ret2 Try.results222 (v1 := .agg #[.int .i64 r_2.A, .int .i64 r_2.B, .int .i64 r_2.C, .int .i64 r_2.D]) (resAt_cellA (B := some ⟨b2, 0, none⟩) (i := 0) (cs := [.int .i64 r_2.A, .int .i64 r_2.B, .int .i64 r_2.C, .int .i64 r_2.D]) (vs := [.int .i64 r_2.A, .int .i64 r_2.B, .int .i64 r_2.C, .int .i64 r_2.D]) rfl k_ag_81 k_sz_81_4 (hS6.cf (i := 2) rfl) rfl rfl) (v2 := .bool r_3) (resAt_tmp rfl) ⟨rfl, (ST.subR (R' := []) (hS6.sel [] rfl rfl) (fun _ h => by cases h))⟩

theorem c_impl_MulDyadic (x : TDyadic) (y : TDyadic)  (w0 : World)  (hS : ST w0 [] w0 [] []) {r_ : TDyadic} {r_1 : Bool} (hF : F_impl_MulDyadic x y = some (r_, r_1)) :
    CV Try.prog 146 #[.agg #[.int .i64 x.Num.A, .int .i64 x.Num.B, .int .i64 x.Num.C, .int .i64 x.Num.D, .int .i64 x.Exp], .agg #[.int .i64 y.Num.A, .int .i64 y.Num.B, .int .i64 y.Num.C, .int .i64 y.Num.D, .int .i64 y.Exp]] w0 (fun v w' => v = .tuple #[.agg #[.int .i64 r_.Num.A, .int .i64 r_.Num.B, .int .i64 r_.Num.C, .int .i64 r_.Num.D, .int .i64 r_.Exp], .bool r_1] ∧ ST w0 [] w' [] []) := by
  unfold F_impl_MulDyadic at hF
  refine cv_of_cw 38 Try.func146 rfl Try.ntmps146 rfl ?_
  refine cw_seq ?_
  refine cw_region ?_
  refine ss 2 rfl rfl (Ys_box (T := 83) (v := .agg #[.int .i64 x.Num.A, .int .i64 x.Num.B, .int .i64 x.Num.C, .int .i64 x.Num.D, .int .i64 x.Exp]) (cs := [.int .i64 x.Num.A, .int .i64 x.Num.B, .int .i64 x.Num.C, .int .i64 x.Num.D, .int .i64 x.Exp]) (m := 5) hS rfl rfl rfl rfl) ?_
  rintro _ w_ ⟨b, rfl, hS1⟩
  refine ss 3 rfl rfl (Ys_box (T := 83) (v := .agg #[.int .i64 y.Num.A, .int .i64 y.Num.B, .int .i64 y.Num.C, .int .i64 y.Num.D, .int .i64 y.Exp]) (cs := [.int .i64 y.Num.A, .int .i64 y.Num.B, .int .i64 y.Num.C, .int .i64 y.Num.D, .int .i64 y.Exp]) (m := 5) hS1 rfl rfl rfl rfl) ?_
  rintro _ w_1 ⟨b1, rfl, hS2⟩
  have hS2 : ST w0 [] _ [⟨some ⟨b, 0, none⟩, 83, [.int .i64 x.Num.A, .int .i64 x.Num.B, .int .i64 x.Num.C, .int .i64 x.Num.D, .int .i64 x.Exp], 5⟩, ⟨some ⟨b1, 0, none⟩, 83, [.int .i64 y.Num.A, .int .i64 y.Num.B, .int .i64 y.Num.C, .int .i64 y.Num.D, .int .i64 y.Exp], 5⟩] [] := hS2
  refine ss 4 rfl rfl (Ys_alloc (T := 83) (cs := [.int .i64 0, .int .i64 0, .int .i64 0, .int .i64 0, .int .i64 0]) (m := 5) hS2 k_zero_83 rfl rfl rfl) ?_
  rintro _ w_2 ⟨b2, rfl, hS3⟩
  have hS3 : ST w0 [] _ [⟨some ⟨b, 0, none⟩, 83, [.int .i64 x.Num.A, .int .i64 x.Num.B, .int .i64 x.Num.C, .int .i64 x.Num.D, .int .i64 x.Exp], 5⟩, ⟨some ⟨b1, 0, none⟩, 83, [.int .i64 y.Num.A, .int .i64 y.Num.B, .int .i64 y.Num.C, .int .i64 y.Num.D, .int .i64 y.Exp], 5⟩, ⟨some ⟨b2, 0, none⟩, 83, [.int .i64 0, .int .i64 0, .int .i64 0, .int .i64 0, .int .i64 0], 5⟩] [] := hS3
  refine sq 5 rfl rfl (Y_assign (v := .bool false) rfl rfl) ?_
  refine rw_nil ?_
  refine cw_seq ?_
  refine cw_region ?_
  refine sq 9 rfl rfl (Y_fieldAddr (B := some ⟨b, 0, none⟩) (i := 0) (s := 3) k_fd_83_0_0_81 k_sz_81_4 rfl rfl) ?_
  refine sq 10 rfl rfl (Y_loadA (B := some ⟨b, 0, none⟩) (i := 0) (cs := [.int .i64 x.Num.A, .int .i64 x.Num.B, .int .i64 x.Num.C, .int .i64 x.Num.D, .int .i64 x.Exp]) (vs := [.int .i64 x.Num.A, .int .i64 x.Num.B, .int .i64 x.Num.C, .int .i64 x.Num.D]) k_ag_81 k_sz_81_4 rfl rfl (hS3.cf (i := 0) rfl) rfl rfl) ?_
  refine sq 11 rfl rfl (Y_fieldAddr (B := some ⟨b1, 0, none⟩) (i := 0) (s := 3) k_fd_83_0_0_81 k_sz_81_4 rfl rfl) ?_
  refine sq 12 rfl rfl (Y_loadA (B := some ⟨b1, 0, none⟩) (i := 0) (cs := [.int .i64 y.Num.A, .int .i64 y.Num.B, .int .i64 y.Num.C, .int .i64 y.Num.D, .int .i64 y.Exp]) (vs := [.int .i64 y.Num.A, .int .i64 y.Num.B, .int .i64 y.Num.C, .int .i64 y.Num.D]) k_ag_81 k_sz_81_4 rfl rfl (hS3.cf (i := 1) rfl) rfl rfl) ?_
  obtain ⟨⟨r_2, r_3⟩, hc, hF⟩ := bind_inv hF
  refine sc 13 rfl rfl (Yc_func (g := 222) (vs := [.agg #[.int .i64 x.Num.A, .int .i64 x.Num.B, .int .i64 x.Num.C, .int .i64 x.Num.D], .agg #[.int .i64 y.Num.A, .int .i64 y.Num.B, .int .i64 y.Num.C, .int .i64 y.Num.D]]) k_call_222 rfl (mc rfl (mc rfl mn)) (c_impl_MulRing x.Num y.Num _  (hS3.inn0 [] rfl) hc)) ?_
  rintro _ w_3 ⟨rfl, hd⟩
  have hS4 := hS3.out00 hd
  have hS4 : ST w0 [] _ [⟨some ⟨b, 0, none⟩, 83, [.int .i64 x.Num.A, .int .i64 x.Num.B, .int .i64 x.Num.C, .int .i64 x.Num.D, .int .i64 x.Exp], 5⟩, ⟨some ⟨b1, 0, none⟩, 83, [.int .i64 y.Num.A, .int .i64 y.Num.B, .int .i64 y.Num.C, .int .i64 y.Num.D, .int .i64 y.Exp], 5⟩, ⟨some ⟨b2, 0, none⟩, 83, [.int .i64 0, .int .i64 0, .int .i64 0, .int .i64 0, .int .i64 0], 5⟩] [] := hS4
  refine sq 8 rfl rfl (Y_move (v := .tuple #[.agg #[.int .i64 r_2.A, .int .i64 r_2.B, .int .i64 r_2.C, .int .i64 r_2.D], .bool r_3]) rfl rfl) ?_
  refine sq 14 rfl rfl (Y_extract (v := .agg #[.int .i64 r_2.A, .int .i64 r_2.B, .int .i64 r_2.C, .int .i64 r_2.D]) rfl rfl rfl) ?_
  refine sq 15 rfl rfl (Y_extract (v := .bool r_3) rfl rfl rfl) ?_
  refine ss 6 rfl rfl (Ys_alloc (T := 81) (cs := [.int .i64 0, .int .i64 0, .int .i64 0, .int .i64 0]) (m := 4) hS4 k_zero_81 rfl rfl rfl) ?_
  rintro _ w_4 ⟨b3, rfl, hS5⟩
  have hS5 : ST w0 [] _ [⟨some ⟨b, 0, none⟩, 83, [.int .i64 x.Num.A, .int .i64 x.Num.B, .int .i64 x.Num.C, .int .i64 x.Num.D, .int .i64 x.Exp], 5⟩, ⟨some ⟨b1, 0, none⟩, 83, [.int .i64 y.Num.A, .int .i64 y.Num.B, .int .i64 y.Num.C, .int .i64 y.Num.D, .int .i64 y.Exp], 5⟩, ⟨some ⟨b2, 0, none⟩, 83, [.int .i64 0, .int .i64 0, .int .i64 0, .int .i64 0, .int .i64 0], 5⟩, ⟨some ⟨b3, 0, none⟩, 81, [.int .i64 0, .int .i64 0, .int .i64 0, .int .i64 0], 4⟩] [] := hS5
  refine ss0 rfl rfl (Ys_store (i := 3) (s := 4) (B := some ⟨b3, 0, none⟩) (T' := 81) (v := .agg #[.int .i64 r_2.A, .int .i64 r_2.B, .int .i64 r_2.C, .int .i64 r_2.D]) (vs := [.int .i64 r_2.A, .int .i64 r_2.B, .int .i64 r_2.C, .int .i64 r_2.D]) (k := 0) (cs' := [.int .i64 r_2.A, .int .i64 r_2.B, .int .i64 r_2.C, .int .i64 r_2.D]) hS5 k_sz_81_4 rfl rfl rfl rfl rfl rfl rfl (Nat.le_of_ble_eq_true rfl) rfl rfl) ?_
  rintro _ w_5 ⟨rfl, hS6⟩
  have hS6 : ST w0 [] _ [⟨some ⟨b, 0, none⟩, 83, [.int .i64 x.Num.A, .int .i64 x.Num.B, .int .i64 x.Num.C, .int .i64 x.Num.D, .int .i64 x.Exp], 5⟩, ⟨some ⟨b1, 0, none⟩, 83, [.int .i64 y.Num.A, .int .i64 y.Num.B, .int .i64 y.Num.C, .int .i64 y.Num.D, .int .i64 y.Exp], 5⟩, ⟨some ⟨b2, 0, none⟩, 83, [.int .i64 0, .int .i64 0, .int .i64 0, .int .i64 0, .int .i64 0], 5⟩, ⟨some ⟨b3, 0, none⟩, 81, [.int .i64 r_2.A, .int .i64 r_2.B, .int .i64 r_2.C, .int .i64 r_2.D], 4⟩] [] := hS6
  refine sq 7 rfl rfl (Y_assign (v := .bool r_3) rfl rfl) ?_
  refine rw_nil ?_
  refine cw_seq ?_
  refine cw_seq ?_
  refine cw_region ?_
  refine sq 16 rfl rfl (Y_loadA (B := some ⟨b, 0, none⟩) (i := 0) (cs := [.int .i64 x.Num.A, .int .i64 x.Num.B, .int .i64 x.Num.C, .int .i64 x.Num.D, .int .i64 x.Exp]) (vs := [.int .i64 x.Num.A, .int .i64 x.Num.B, .int .i64 x.Num.C, .int .i64 x.Num.D, .int .i64 x.Exp]) k_ag_83 k_sz_83_5 rfl rfl (hS6.cf (i := 0) rfl) rfl rfl) ?_
  obtain ⟨r_4, hc1, hF⟩ := bind_inv hF
  refine sc 17 rfl rfl (Yc_func (g := 172) (vs := [.agg #[.int .i64 x.Num.A, .int .i64 x.Num.B, .int .i64 x.Num.C, .int .i64 x.Num.D, .int .i64 x.Exp]]) k_call_172 rfl (mc rfl mn) (c_impl_IsValidDyadic x _  (hS6.inn0 [] rfl) hc1)) ?_
  rintro _ w_6 ⟨rfl, hd1⟩
  have hS7 := hS6.out00 hd1
  have hS7 : ST w0 [] _ [⟨some ⟨b, 0, none⟩, 83, [.int .i64 x.Num.A, .int .i64 x.Num.B, .int .i64 x.Num.C, .int .i64 x.Num.D, .int .i64 x.Exp], 5⟩, ⟨some ⟨b1, 0, none⟩, 83, [.int .i64 y.Num.A, .int .i64 y.Num.B, .int .i64 y.Num.C, .int .i64 y.Num.D, .int .i64 y.Exp], 5⟩, ⟨some ⟨b2, 0, none⟩, 83, [.int .i64 0, .int .i64 0, .int .i64 0, .int .i64 0, .int .i64 0], 5⟩, ⟨some ⟨b3, 0, none⟩, 81, [.int .i64 r_2.A, .int .i64 r_2.B, .int .i64 r_2.C, .int .i64 r_2.D], 4⟩] [] := hS7
  refine sq 18 rfl rfl (Y_not (p := r_4) rfl rfl) ?_
  refine sq 19 rfl rfl (Y_move (v := .bool (!r_4)) rfl rfl) ?_
  refine sgq 20 (B := (!(!r_4))) (v := .agg #[.int .i64 y.Num.A, .int .i64 y.Num.B, .int .i64 y.Num.C, .int .i64 y.Num.D, .int .i64 y.Exp]) rfl rfl (wt_f (gd_of (t := 19) (by kernel_rfl) rfl)) (fun hg => (Y_loadA (B := some ⟨b1, 0, none⟩) (i := 0) (cs := [.int .i64 y.Num.A, .int .i64 y.Num.B, .int .i64 y.Num.C, .int .i64 y.Num.D, .int .i64 y.Exp]) (vs := [.int .i64 y.Num.A, .int .i64 y.Num.B, .int .i64 y.Num.C, .int .i64 y.Num.D, .int .i64 y.Exp]) k_ag_83 k_sz_83_5 rfl rfl (hS7.cf (i := 1) rfl) rfl rfl)) ?_
  obtain ⟨r_5, hc2, hF⟩ := bind_inv hF
  refine sgc 21 (B := (!(!r_4))) (v := .bool r_5) (F := hS7.fn) rfl rfl (wt_f (gd_of (t := 19) (by kernel_rfl) rfl)) hS7 (fun hg1 => (Yc_func (g := 172) (vs := [.agg #[.int .i64 y.Num.A, .int .i64 y.Num.B, .int .i64 y.Num.C, .int .i64 y.Num.D, .int .i64 y.Exp]]) k_call_172 rfl (mc (gv_of (B := (!(!r_4))) (v := .agg #[.int .i64 y.Num.A, .int .i64 y.Num.B, .int .i64 y.Num.C, .int .i64 y.Num.D, .int .i64 y.Exp]) hg1) mn) (CV.mono (c_impl_IsValidDyadic y _  (hS7.inn0 [] rfl) (gb_inv hc2 hg1)) (by rintro _ _ ⟨rfl, h⟩; exact ⟨rfl, hS7.out00 h⟩)))) ?_
  rintro w_7 hS8
  have hS8 : ST _ _ w_7 _ _ := hS8
  refine sgq 22 (B := (!(!r_4))) (v := .bool (!r_5)) rfl rfl (wt_f (gd_of (t := 19) (by kernel_rfl) rfl)) (fun hg2 => (Y_not (p := r_5) rfl (gv_of (B := (!(!r_4))) (v := .bool r_5) hg2))) ?_
  refine sq 23 rfl rfl (Y_or (b := (!r_4)) (z := (!r_5)) rfl rfl rfl rfl) ?_
  refine sq 24 rfl rfl (Y_move (v := .bool ((!r_4) || (!r_5))) rfl rfl) ?_
  refine sgq 25 (B := (!((!r_4) || (!r_5)))) (v := .bool r_3) rfl rfl (wt_f (gd_of (t := 24) (by kernel_rfl) rfl)) (fun hg3 => (Y_move (v := .bool r_3) rfl rfl)) ?_
  refine sgq 26 (B := (!((!r_4) || (!r_5)))) (v := .bool (!r_3)) rfl rfl (wt_f (gd_of (t := 24) (by kernel_rfl) rfl)) (fun hg4 => (Y_not (p := r_3) rfl (gv_of (B := (!((!r_4) || (!r_5)))) (v := .bool r_3) hg4))) ?_
  refine sq 27 rfl rfl (Y_or (b := ((!r_4) || (!r_5))) (z := (!r_3)) rfl rfl rfl rfl) ?_
  refine rw_nil ?_
  refine cw_cond (b := (((!r_4) || (!r_5)) || (!r_3))) rfl (fun hb => ?_) (fun hb => ?_)
  · skip
    have hF1 := ct hF hb
    refine cw_seq ?_
    refine cw_region ?_
    refine sq 28 rfl rfl (Y_buildS (zs := [.int .i64 0, .int .i64 0, .int .i64 0, .int .i64 0, .int .i64 0]) (vs := []) (cs := [.int .i64 0, .int .i64 0, .int .i64 0, .int .i64 0, .int .i64 0]) k_pl_83 k_zero_83 rfl mpn rfl) ?_
    refine ss0 rfl rfl (Ys_store (i := 2) (s := 5) (B := some ⟨b2, 0, none⟩) (T' := 83) (v := .agg #[.int .i64 0, .int .i64 0, .int .i64 0, .int .i64 0, .int .i64 0]) (vs := [.int .i64 0, .int .i64 0, .int .i64 0, .int .i64 0, .int .i64 0]) (k := 0) (cs' := [.int .i64 0, .int .i64 0, .int .i64 0, .int .i64 0, .int .i64 0]) hS8 k_sz_83_5 rfl rfl rfl rfl rfl rfl rfl (Nat.le_of_ble_eq_true rfl) rfl rfl) ?_
    rintro _ w_8 ⟨rfl, hS9⟩
    have hS9 : ST w0 [] _ [⟨some ⟨b, 0, none⟩, 83, [.int .i64 x.Num.A, .int .i64 x.Num.B, .int .i64 x.Num.C, .int .i64 x.Num.D, .int .i64 x.Exp], 5⟩, ⟨some ⟨b1, 0, none⟩, 83, [.int .i64 y.Num.A, .int .i64 y.Num.B, .int .i64 y.Num.C, .int .i64 y.Num.D, .int .i64 y.Exp], 5⟩, ⟨some ⟨b2, 0, none⟩, 83, [.int .i64 0, .int .i64 0, .int .i64 0, .int .i64 0, .int .i64 0], 5⟩, ⟨some ⟨b3, 0, none⟩, 81, [.int .i64 r_2.A, .int .i64 r_2.B, .int .i64 r_2.C, .int .i64 r_2.D], 4⟩] [] := hS9
    refine sq 5 rfl rfl (Y_assign (v := .bool false) rfl rfl) ?_
    refine rw_nil ?_
    refine cw_ret ?_
    obtain ⟨rfl, rfl⟩ := pr2 (some_inj hF1)
    exact ret2 Try.results146 (v1 := .agg #[.int .i64 0, .int .i64 0, .int .i64 0, .int .i64 0, .int .i64 0]) (resAt_cellA (B := some ⟨b2, 0, none⟩) (i := 0) (cs := [.int .i64 0, .int .i64 0, .int .i64 0, .int .i64 0, .int .i64 0]) (vs := [.int .i64 0, .int .i64 0, .int .i64 0, .int .i64 0, .int .i64 0]) rfl k_ag_83 k_sz_83_5 (hS9.cf (i := 2) rfl) rfl rfl) (v2 := .bool false) (resAt_tmp rfl) ⟨rfl, (ST.subR (R' := []) (hS9.sel [] rfl rfl) (fun _ h => by cases h))⟩
  · skip
    have hF2 := cf' hF hb
    refine cw_skip ?_
    refine cw_seq ?_
    refine cw_region ?_
    refine sq 29 rfl rfl (Y_loadA (B := some ⟨b3, 0, none⟩) (i := 0) (cs := [.int .i64 r_2.A, .int .i64 r_2.B, .int .i64 r_2.C, .int .i64 r_2.D]) (vs := [.int .i64 r_2.A, .int .i64 r_2.B, .int .i64 r_2.C, .int .i64 r_2.D]) k_ag_81 k_sz_81_4 rfl rfl (hS8.cf (i := 3) rfl) rfl rfl) ?_
    refine sq 30 rfl rfl (Y_fieldAddr (B := some ⟨b, 0, none⟩) (i := 0) (s := 0) k_fd_83_1_4_3 k_sz_3_1 rfl rfl) ?_
    refine sq 31 rfl rfl (Y_load1 (B := some ⟨b, 0, none⟩) (i := 4) (cs := [.int .i64 x.Num.A, .int .i64 x.Num.B, .int .i64 x.Num.C, .int .i64 x.Num.D, .int .i64 x.Exp]) (v := .int .i64 x.Exp) k_sc_3 rfl rfl (hS8.cf (i := 0) rfl) rfl) ?_
    refine sq 32 rfl rfl (Y_fieldAddr (B := some ⟨b1, 0, none⟩) (i := 0) (s := 0) k_fd_83_1_4_3 k_sz_3_1 rfl rfl) ?_
    refine sq 33 rfl rfl (Y_load1 (B := some ⟨b1, 0, none⟩) (i := 4) (cs := [.int .i64 y.Num.A, .int .i64 y.Num.B, .int .i64 y.Num.C, .int .i64 y.Num.D, .int .i64 y.Exp]) (v := .int .i64 y.Exp) k_sc_3 rfl rfl (hS8.cf (i := 1) rfl) rfl) ?_
    refine sq 34 rfl rfl (Y_add (k := .i64) (a := x.Exp) (b := y.Exp) rfl rfl rfl) ?_
    obtain ⟨⟨r_6, r_7⟩, hc3, hF2⟩ := bind_inv hF2
    refine sc 35 rfl rfl (Yc_func (g := 223) (vs := [.agg #[.int .i64 r_2.A, .int .i64 r_2.B, .int .i64 r_2.C, .int .i64 r_2.D], .int .i64 (IntKind.i64.wrap (x.Exp + y.Exp))]) k_call_223 rfl (mc rfl (mc rfl mn)) (c_impl_DyadicOf r_2 (IntKind.i64.wrap (x.Exp + y.Exp)) _  (hS8.inn0 [] rfl) hc3)) ?_
    rintro _ w_9 ⟨rfl, hd2⟩
    have hS10 := hS8.out00 hd2
    have hS10 : ST w0 [] _ [⟨some ⟨b, 0, none⟩, 83, [.int .i64 x.Num.A, .int .i64 x.Num.B, .int .i64 x.Num.C, .int .i64 x.Num.D, .int .i64 x.Exp], 5⟩, ⟨some ⟨b1, 0, none⟩, 83, [.int .i64 y.Num.A, .int .i64 y.Num.B, .int .i64 y.Num.C, .int .i64 y.Num.D, .int .i64 y.Exp], 5⟩, ⟨some ⟨b2, 0, none⟩, 83, [.int .i64 0, .int .i64 0, .int .i64 0, .int .i64 0, .int .i64 0], 5⟩, ⟨some ⟨b3, 0, none⟩, 81, [.int .i64 r_2.A, .int .i64 r_2.B, .int .i64 r_2.C, .int .i64 r_2.D], 4⟩] [] := hS10
    refine sq 36 rfl rfl (Y_extract (v := .agg #[.int .i64 r_6.Num.A, .int .i64 r_6.Num.B, .int .i64 r_6.Num.C, .int .i64 r_6.Num.D, .int .i64 r_6.Exp]) rfl rfl rfl) ?_
    refine sq 37 rfl rfl (Y_extract (v := .bool r_7) rfl rfl rfl) ?_
    refine ss0 rfl rfl (Ys_store (i := 2) (s := 5) (B := some ⟨b2, 0, none⟩) (T' := 83) (v := .agg #[.int .i64 r_6.Num.A, .int .i64 r_6.Num.B, .int .i64 r_6.Num.C, .int .i64 r_6.Num.D, .int .i64 r_6.Exp]) (vs := [.int .i64 r_6.Num.A, .int .i64 r_6.Num.B, .int .i64 r_6.Num.C, .int .i64 r_6.Num.D, .int .i64 r_6.Exp]) (k := 0) (cs' := [.int .i64 r_6.Num.A, .int .i64 r_6.Num.B, .int .i64 r_6.Num.C, .int .i64 r_6.Num.D, .int .i64 r_6.Exp]) hS10 k_sz_83_5 rfl rfl rfl rfl rfl rfl rfl (Nat.le_of_ble_eq_true rfl) rfl rfl) ?_
    rintro _ w_10 ⟨rfl, hS11⟩
    have hS11 : ST w0 [] _ [⟨some ⟨b, 0, none⟩, 83, [.int .i64 x.Num.A, .int .i64 x.Num.B, .int .i64 x.Num.C, .int .i64 x.Num.D, .int .i64 x.Exp], 5⟩, ⟨some ⟨b1, 0, none⟩, 83, [.int .i64 y.Num.A, .int .i64 y.Num.B, .int .i64 y.Num.C, .int .i64 y.Num.D, .int .i64 y.Exp], 5⟩, ⟨some ⟨b2, 0, none⟩, 83, [.int .i64 r_6.Num.A, .int .i64 r_6.Num.B, .int .i64 r_6.Num.C, .int .i64 r_6.Num.D, .int .i64 r_6.Exp], 5⟩, ⟨some ⟨b3, 0, none⟩, 81, [.int .i64 r_2.A, .int .i64 r_2.B, .int .i64 r_2.C, .int .i64 r_2.D], 4⟩] [] := hS11
    refine sq 5 rfl rfl (Y_assign (v := .bool r_7) rfl rfl) ?_
    refine rw_nil ?_
    refine cw_ret ?_
    obtain ⟨rfl, rfl⟩ := pr2 (some_inj hF2)
    exact ret2 Try.results146 (v1 := .agg #[.int .i64 r_6.Num.A, .int .i64 r_6.Num.B, .int .i64 r_6.Num.C, .int .i64 r_6.Num.D, .int .i64 r_6.Exp]) (resAt_cellA (B := some ⟨b2, 0, none⟩) (i := 0) (cs := [.int .i64 r_6.Num.A, .int .i64 r_6.Num.B, .int .i64 r_6.Num.C, .int .i64 r_6.Num.D, .int .i64 r_6.Exp]) (vs := [.int .i64 r_6.Num.A, .int .i64 r_6.Num.B, .int .i64 r_6.Num.C, .int .i64 r_6.Num.D, .int .i64 r_6.Exp]) rfl k_ag_83 k_sz_83_5 (hS11.cf (i := 2) rfl) rfl rfl) (v2 := .bool r_7) (resAt_tmp rfl) ⟨rfl, (ST.subR (R' := []) (hS11.sel [] rfl rfl) (fun _ h => by cases h))⟩

theorem c_impl_Matrix_at (m : TMatrix) (i : Int) (j : Int) (B : Option Addr) (c n : Nat) (w0 : World) (hn : m.Cells.length = n) (hS : ST w0 [] w0 [] [⟨B, (m.Cells.flatMap enc_Dyadic)⟩]) {r_ : TDyadic} (hF : F_impl_Matrix_at m i j = some r_) :
    CV Try.prog 147 #[.agg #[.int .i64 m.Rows, .int .i64 m.Cols, .slice B n c], .int .i64 i, .int .i64 j] w0 (fun v w' => v = .agg #[.int .i64 r_.Num.A, .int .i64 r_.Num.B, .int .i64 r_.Num.C, .int .i64 r_.Num.D, .int .i64 r_.Exp] ∧ ST w0 [] w' [] []) := by
  subst hn
  unfold F_impl_Matrix_at at hF
  refine cv_of_cw 17 Try.func147 rfl Try.ntmps147 rfl ?_
  refine cw_seq ?_
  refine cw_region ?_
  refine ss 3 rfl rfl (Ys_box (T := 26) (v := .agg #[.int .i64 m.Rows, .int .i64 m.Cols, .slice B m.Cells.length c]) (cs := [.int .i64 m.Rows, .int .i64 m.Cols, .slice B m.Cells.length c]) (m := 3) hS rfl rfl rfl rfl) ?_
  rintro _ w_ ⟨b, rfl, hS1⟩
  refine ss 6 rfl rfl (Ys_alloc (T := 83) (cs := [.int .i64 0, .int .i64 0, .int .i64 0, .int .i64 0, .int .i64 0]) (m := 5) hS1 k_zero_83 rfl rfl rfl) ?_
  rintro _ w_1 ⟨b1, rfl, hS2⟩
  have hS2 : ST w0 [] _ [⟨some ⟨b, 0, none⟩, 26, [.int .i64 m.Rows, .int .i64 m.Cols, .slice B m.Cells.length c], 3⟩, ⟨some ⟨b1, 0, none⟩, 83, [.int .i64 0, .int .i64 0, .int .i64 0, .int .i64 0, .int .i64 0], 5⟩] [⟨B, (m.Cells.flatMap enc_Dyadic)⟩] := hS2
  refine rw_nil ?_
  refine cw_seq ?_
  refine cw_region ?_
  refine sq 7 rfl rfl (Y_fieldAddr (B := some ⟨b, 0, none⟩) (i := 0) (s := 0) k_fd_26_2_2_24 k_sz_24_1 rfl rfl) ?_
  refine sq 8 rfl rfl (Y_load1 (B := some ⟨b, 0, none⟩) (i := 2) (cs := [.int .i64 m.Rows, .int .i64 m.Cols, .slice B m.Cells.length c]) (v := .slice B m.Cells.length c) k_sc_24 rfl rfl (hS2.cf (i := 0) rfl) rfl) ?_
  refine sq 9 rfl rfl (Y_move (v := .int .i64 i) rfl rfl) ?_
  refine sq 10 rfl rfl (Y_fieldAddr (B := some ⟨b, 0, none⟩) (i := 0) (s := 0) k_fd_26_1_1_3 k_sz_3_1 rfl rfl) ?_
  refine sq 11 rfl rfl (Y_load1 (B := some ⟨b, 0, none⟩) (i := 1) (cs := [.int .i64 m.Rows, .int .i64 m.Cols, .slice B m.Cells.length c]) (v := .int .i64 m.Cols) k_sc_3 rfl rfl (hS2.cf (i := 0) rfl) rfl) ?_
  refine sq 12 rfl rfl (Y_mul (k := .i64) (a := i) (b := m.Cols) rfl rfl rfl) ?_
  refine sq 13 rfl rfl (Y_move (v := .int .i64 j) rfl rfl) ?_
  refine sq 14 rfl rfl (Y_add (k := .i64) (a := (IntKind.i64.wrap (i * m.Cols))) (b := j) rfl rfl rfl) ?_
  obtain ⟨x, hx, hF⟩ := bind_inv hF
  refine sq 15 rfl rfl (Y_index (B := B) (m := m.Cells.length) (c := c) (k := .i64) (i := (IntKind.i64.wrap ((IntKind.i64.wrap (i * m.Cols)) + j))) k_sl_24_83 k_sz_83_5 rfl rfl rfl (gi_isSome enc_Dyadic_len rfl (hS2.rf (i := 0) rfl) hx) (getI_nn hx) (getI_ltI hx rfl)) ?_
  refine sq 16 rfl rfl (Y_loadA (B := B) (i := (IntKind.i64.wrap ((IntKind.i64.wrap (i * m.Cols)) + j)).toNat * 5) (cs := (m.Cells.flatMap enc_Dyadic)) (vs := [.int .i64 x.Num.A, .int .i64 x.Num.B, .int .i64 x.Num.C, .int .i64 x.Num.D, .int .i64 x.Exp]) k_ag_83 k_sz_83_5 rfl rfl (hS2.rf (i := 0) rfl) (enc_Dyadic_len x) (gi_seg enc_Dyadic_len hx)) ?_
  refine ss0 rfl rfl (Ys_store (i := 1) (s := 5) (B := some ⟨b1, 0, none⟩) (T' := 83) (v := .agg #[.int .i64 x.Num.A, .int .i64 x.Num.B, .int .i64 x.Num.C, .int .i64 x.Num.D, .int .i64 x.Exp]) (vs := [.int .i64 x.Num.A, .int .i64 x.Num.B, .int .i64 x.Num.C, .int .i64 x.Num.D, .int .i64 x.Exp]) (k := 0) (cs' := [.int .i64 x.Num.A, .int .i64 x.Num.B, .int .i64 x.Num.C, .int .i64 x.Num.D, .int .i64 x.Exp]) hS2 k_sz_83_5 rfl rfl rfl rfl rfl rfl rfl (Nat.le_of_ble_eq_true rfl) rfl rfl) ?_
  rintro _ w_2 ⟨rfl, hS3⟩
  have hS3 : ST w0 [] _ [⟨some ⟨b, 0, none⟩, 26, [.int .i64 m.Rows, .int .i64 m.Cols, .slice B m.Cells.length c], 3⟩, ⟨some ⟨b1, 0, none⟩, 83, [.int .i64 x.Num.A, .int .i64 x.Num.B, .int .i64 x.Num.C, .int .i64 x.Num.D, .int .i64 x.Exp], 5⟩] [⟨B, (m.Cells.flatMap enc_Dyadic)⟩] := hS3
  refine rw_nil ?_
  refine cw_ret ?_
  obtain rfl := some_inj hF
  exact ret1 Try.results147 (v1 := .agg #[.int .i64 x.Num.A, .int .i64 x.Num.B, .int .i64 x.Num.C, .int .i64 x.Num.D, .int .i64 x.Exp]) (resAt_cellA (B := some ⟨b1, 0, none⟩) (i := 0) (cs := [.int .i64 x.Num.A, .int .i64 x.Num.B, .int .i64 x.Num.C, .int .i64 x.Num.D, .int .i64 x.Exp]) (vs := [.int .i64 x.Num.A, .int .i64 x.Num.B, .int .i64 x.Num.C, .int .i64 x.Num.D, .int .i64 x.Exp]) rfl k_ag_83 k_sz_83_5 (hS3.cf (i := 1) rfl) rfl rfl) ⟨rfl, (ST.subR (R' := []) (hS3.sel [] rfl rfl) (fun _ h => by cases h))⟩

theorem c_impl_MulMatrix_1 (i : Int) (j : Int) (p : TMatrix) (p1 : TMatrix) (B : Option Addr) (B1 : Option Addr) (c n : Nat) (B2 : Option Addr) (B3 : Option Addr) (c1 n1 : Nat) (w0 : World) (hn : p.Cells.length = n) (hn1 : p1.Cells.length = n1) (hS : ST w0 [] w0 [] [⟨B, [.int .i64 p.Rows, .int .i64 p.Cols, .slice B1 p.Cells.length c]⟩, ⟨B1, (p.Cells.flatMap enc_Dyadic)⟩, ⟨B2, [.int .i64 p1.Rows, .int .i64 p1.Cols, .slice B3 p1.Cells.length c1]⟩, ⟨B3, (p1.Cells.flatMap enc_Dyadic)⟩]) {r_ : TDyadic} {r_1 : Bool} (hF : F_impl_MulMatrix_1 i j p p1 = some (r_, r_1)) :
    CV Try.prog 145 #[.int .i64 i, .int .i64 j, pt B 0, pt B2 0] w0 (fun v w' => v = .tuple #[.agg #[.int .i64 r_.Num.A, .int .i64 r_.Num.B, .int .i64 r_.Num.C, .int .i64 r_.Num.D, .int .i64 r_.Exp], .bool r_1] ∧ ST w0 [] w' [] []) := by
  subst hn
  subst hn1
  unfold F_impl_MulMatrix_1 at hF
  refine cv_of_cw 48 Try.func145 rfl Try.ntmps145 rfl ?_
  refine cw_seq ?_
  refine cw_region ?_
  refine ss 6 rfl rfl (Ys_alloc (T := 83) (cs := [.int .i64 0, .int .i64 0, .int .i64 0, .int .i64 0, .int .i64 0]) (m := 5) hS k_zero_83 rfl rfl rfl) ?_
  rintro _ w_ ⟨b, rfl, hS1⟩
  refine sq 7 rfl rfl (Y_assign (v := .bool false) rfl rfl) ?_
  refine rw_nil ?_
  refine cw_seq ?_
  refine cw_region ?_
  refine sq 14 rfl rfl (Y_buildS (zs := [.int .i64 0, .int .i64 0, .int .i64 0, .int .i64 0, .int .i64 0]) (vs := []) (cs := [.int .i64 0, .int .i64 0, .int .i64 0, .int .i64 0, .int .i64 0]) k_pl_83 k_zero_83 rfl mpn rfl) ?_
  refine ss 8 rfl rfl (Ys_alloc (T := 83) (cs := [.int .i64 0, .int .i64 0, .int .i64 0, .int .i64 0, .int .i64 0]) (m := 5) hS1 k_zero_83 rfl rfl rfl) ?_
  rintro _ w_1 ⟨b1, rfl, hS2⟩
  have hS2 : ST w0 [] _ [⟨some ⟨b, 0, none⟩, 83, [.int .i64 0, .int .i64 0, .int .i64 0, .int .i64 0, .int .i64 0], 5⟩, ⟨some ⟨b1, 0, none⟩, 83, [.int .i64 0, .int .i64 0, .int .i64 0, .int .i64 0, .int .i64 0], 5⟩] [⟨B, [.int .i64 p.Rows, .int .i64 p.Cols, .slice B1 p.Cells.length c]⟩, ⟨B1, (p.Cells.flatMap enc_Dyadic)⟩, ⟨B2, [.int .i64 p1.Rows, .int .i64 p1.Cols, .slice B3 p1.Cells.length c1]⟩, ⟨B3, (p1.Cells.flatMap enc_Dyadic)⟩] := hS2
  refine ss0 rfl rfl (Ys_store (i := 1) (s := 5) (B := some ⟨b1, 0, none⟩) (T' := 83) (v := .agg #[.int .i64 0, .int .i64 0, .int .i64 0, .int .i64 0, .int .i64 0]) (vs := [.int .i64 0, .int .i64 0, .int .i64 0, .int .i64 0, .int .i64 0]) (k := 0) (cs' := [.int .i64 0, .int .i64 0, .int .i64 0, .int .i64 0, .int .i64 0]) hS2 k_sz_83_5 rfl rfl rfl rfl rfl rfl rfl (Nat.le_of_ble_eq_true rfl) rfl rfl) ?_
  rintro _ w_2 ⟨rfl, hS3⟩
  have hS3 : ST w0 [] _ [⟨some ⟨b, 0, none⟩, 83, [.int .i64 0, .int .i64 0, .int .i64 0, .int .i64 0, .int .i64 0], 5⟩, ⟨some ⟨b1, 0, none⟩, 83, [.int .i64 0, .int .i64 0, .int .i64 0, .int .i64 0, .int .i64 0], 5⟩] [⟨B, [.int .i64 p.Rows, .int .i64 p.Cols, .slice B1 p.Cells.length c]⟩, ⟨B1, (p.Cells.flatMap enc_Dyadic)⟩, ⟨B2, [.int .i64 p1.Rows, .int .i64 p1.Cols, .slice B3 p1.Cells.length c1]⟩, ⟨B3, (p1.Cells.flatMap enc_Dyadic)⟩] := hS3
  refine rw_nil ?_
  refine cw_seq ?_
  refine cw_seq ?_
  refine cw_region ?_
  refine sq 15 rfl rfl (Y_fieldAddr (B := B) (i := 0) (s := 0) k_fd_26_1_1_3 k_sz_3_1 rfl rfl) ?_
  refine sq 16 rfl rfl (Y_load1 (B := B) (i := 1) (cs := [.int .i64 p.Rows, .int .i64 p.Cols, .slice B1 p.Cells.length c]) (v := .int .i64 p.Cols) k_sc_3 rfl rfl (hS3.rf (i := 0) rfl) rfl) ?_
  refine sq 17 rfl rfl (Y_move (v := .int .i64 0) rfl rfl) ?_
  refine rw_nil ?_
  obtain ⟨hN, hF⟩ := chk_inv hF
  obtain ⟨z, hz, hF1⟩ := bind_inv hF
  refine cw_block ?_
  refine cw_loop (fun k f w => ∃ (i1 : Nat) (A : Int) (B4 : Int) (C : Int) (D : Int) (Exp : Int), FF f [(0, .int .i64 i), (1, .int .i64 j), (2, pt B 0), (3, pt B2 0), (6, pt (some ⟨b, 0, none⟩) 0), (8, pt (some ⟨b1, 0, none⟩) 0), (16, .int .i64 p.Cols), (17, .int .i64 (i1 : Int))] ∧ ST w0 [] w [⟨some ⟨b, 0, none⟩, 83, [.int .i64 0, .int .i64 0, .int .i64 0, .int .i64 0, .int .i64 0], 5⟩, ⟨some ⟨b1, 0, none⟩, 83, [.int .i64 A, .int .i64 B4, .int .i64 C, .int .i64 D, .int .i64 Exp], 5⟩] [⟨B, [.int .i64 p.Rows, .int .i64 p.Cols, .slice B1 p.Cells.length c]⟩, ⟨B1, (p.Cells.flatMap enc_Dyadic)⟩, ⟨B2, [.int .i64 p1.Rows, .int .i64 p1.Cols, .slice B3 p1.Cells.length c1]⟩, ⟨B3, (p1.Cells.flatMap enc_Dyadic)⟩] ∧ i1 + k = p.Cols.toNat ∧ forX (F_impl_MulMatrix_1_l1 p i p1 j) k i1 (A, B4, C, D, Exp) = some z) p.Cols.toNat ⟨0, 0, 0, 0, 0, 0, (FF.cons rfl (FF.cons rfl (FF.cons rfl (FF.cons rfl (FF.cons rfl (FF.cons rfl (FF.cons rfl (FF.cons rfl FF.nil)))))))), (hS3.sel [0, 1] rfl rfl), Nat.zero_add _, hz⟩ ?_
  rintro k_ f w ⟨i1, A, B4, C, D, Exp, hf, hS4, hik, hL⟩
  refine cw_seq ?_
  refine cw_region ?_
  refine sq 18 rfl rfl (Y_lt (k := .i64) (a := (i1 : Int)) (b := p.Cols) rfl (hf.get 17 7 rfl) (hf.get 16 6 rfl)) ?_
  refine rw_nil ?_
  refine cw_seq ?_
  refine cw_cond (b := (decide ((i1 : Int) < p.Cols))) rfl (fun hlt => ?_) (fun hlt => ?_)
  · skip
    have hlt1 : i1 < p.Cols.toNat := by have h := of_decide_eq_true hlt; omega
    obtain ⟨k_1, rfl⟩ : ∃ k2, k_ = k2 + 1 := ⟨k_ - 1, by omega⟩
    obtain ⟨y, hb, hL1⟩ := forX_go hL
    unfold F_impl_MulMatrix_1_l1 at hb
    refine cw_skip ?_
    refine cw_seq ?_
    refine cw_block ?_
    refine cw_seq ?_
    refine cw_region ?_
    refine sq 19 rfl rfl (Y_move (v := .int .i64 (i1 : Int)) rfl (hf.get 17 7 rfl)) ?_
    refine sq 9 rfl rfl (Y_assign (v := .int .i64 (i1 : Int)) rfl rfl) ?_
    refine rw_nil ?_
    refine cw_seq ?_
    obtain ⟨r_2, hc, hb⟩ := bind_inv hb
    obtain ⟨r_3, hc1, hb⟩ := bind_inv hb
    obtain ⟨⟨r_4, r_5⟩, hc2, hb⟩ := bind_inv hb
    refine cw_mid (fun f w => ∃ (B5 : Option Addr), FF f [(0, .int .i64 i), (1, .int .i64 j), (2, pt B 0), (3, pt B2 0), (6, pt (some ⟨b, 0, none⟩) 0), (8, pt (some ⟨b1, 0, none⟩) 0), (10, pt B5 0), (11, .bool r_5), (16, .int .i64 p.Cols), (17, .int .i64 (i1 : Int))] ∧ ST w0 [] w [⟨some ⟨b, 0, none⟩, 83, [.int .i64 0, .int .i64 0, .int .i64 0, .int .i64 0, .int .i64 0], 5⟩, ⟨some ⟨b1, 0, none⟩, 83, [.int .i64 A, .int .i64 B4, .int .i64 C, .int .i64 D, .int .i64 Exp], 5⟩, ⟨B5, 83, [.int .i64 r_4.Num.A, .int .i64 r_4.Num.B, .int .i64 r_4.Num.C, .int .i64 r_4.Num.D, .int .i64 r_4.Exp], 5⟩] [⟨B, [.int .i64 p.Rows, .int .i64 p.Cols, .slice B1 p.Cells.length c]⟩, ⟨B1, (p.Cells.flatMap enc_Dyadic)⟩, ⟨B2, [.int .i64 p1.Rows, .int .i64 p1.Cols, .slice B3 p1.Cells.length c1]⟩, ⟨B3, (p1.Cells.flatMap enc_Dyadic)⟩]) ?_ ?_
    · skip
      refine ra_start (ST.sel hS4 [0, 1] rfl rfl).fn (by kernel_rfl) ?_
      have hS9 := hS4.drew
      refine ra_q 0 21 (v := .agg #[.int .i64 p.Rows, .int .i64 p.Cols, .slice B1 p.Cells.length c]) rfl rfl rfl (by kernel_rfl) (by kernel_rfl) (by kernel_rfl) (ST.sel hS9 [0, 1] rfl rfl) (fun w' hw' => (Y_loadA (B := B) (i := 0) (cs := [.int .i64 p.Rows, .int .i64 p.Cols, .slice B1 p.Cells.length c]) (vs := [.int .i64 p.Rows, .int .i64 p.Cols, .slice B1 p.Cells.length c]) k_ag_26 k_sz_26_3 rfl (hf.get 2 2 rfl) (ST.rf hw' (i := 0) rfl) rfl rfl)) ?_
      refine ra_q 1 22 (v := .int .i64 i) rfl rfl rfl (by kernel_rfl) (by kernel_rfl) (by kernel_rfl) (ST.sel hS9 [0, 1] rfl rfl) (fun w' hw' => (Y_move (v := .int .i64 i) rfl (hf.get 0 0 rfl))) ?_
      refine ra_q 2 23 (v := .int .i64 (i1 : Int)) rfl rfl rfl (by kernel_rfl) (by kernel_rfl) (by kernel_rfl) (ST.sel hS9 [0, 1] rfl rfl) (fun w' hw' => (Y_move (v := .int .i64 (i1 : Int)) rfl rfl)) ?_
      refine ra_q 4 25 (v := .agg #[.int .i64 p1.Rows, .int .i64 p1.Cols, .slice B3 p1.Cells.length c1]) rfl rfl rfl (by kernel_rfl) (by kernel_rfl) (by kernel_rfl) (ST.sel hS9 [0, 1] rfl rfl) (fun w' hw' => (Y_loadA (B := B2) (i := 0) (cs := [.int .i64 p1.Rows, .int .i64 p1.Cols, .slice B3 p1.Cells.length c1]) (vs := [.int .i64 p1.Rows, .int .i64 p1.Cols, .slice B3 p1.Cells.length c1]) k_ag_26 k_sz_26_3 rfl (hf.get 3 3 rfl) (ST.rf hw' (i := 2) rfl) rfl rfl)) ?_
      refine ra_q 5 26 (v := .int .i64 (i1 : Int)) rfl rfl rfl (by kernel_rfl) (by kernel_rfl) (by kernel_rfl) (ST.sel hS9 [0, 1] rfl rfl) (fun w' hw' => (Y_move (v := .int .i64 (i1 : Int)) rfl rfl)) ?_
      refine ra_q 6 27 (v := .int .i64 j) rfl rfl rfl (by kernel_rfl) (by kernel_rfl) (by kernel_rfl) (ST.sel hS9 [0, 1] rfl rfl) (fun w' hw' => (Y_move (v := .int .i64 j) rfl (hf.get 1 1 rfl))) ?_
      refine ra_all (rs := [3, 12]) (by kernel_rfl) rfl ?_
      refine ra_c 24 (i := 3) rfl rfl rfl (Yc_func (g := 147) (vs := [.agg #[.int .i64 p.Rows, .int .i64 p.Cols, .slice B1 p.Cells.length c], .int .i64 i, .int .i64 (i1 : Int)]) k_call_147 rfl (mc rfl (mc rfl (mc rfl mn))) (c_impl_Matrix_at p i (i1 : Int) B1 c p.Cells.length _ rfl (hS9.inn0 [(true, 1)] rfl) hc)) ?_ ?_
      · rintro _ w_3 ⟨rfl, hd⟩
        have hS10 := hS9.out00 hd
        have hS10 : ST w0 [] _ [⟨some ⟨b, 0, none⟩, 83, [.int .i64 0, .int .i64 0, .int .i64 0, .int .i64 0, .int .i64 0], 5⟩, ⟨some ⟨b1, 0, none⟩, 83, [.int .i64 A, .int .i64 B4, .int .i64 C, .int .i64 D, .int .i64 Exp], 5⟩] [⟨B, [.int .i64 p.Rows, .int .i64 p.Cols, .slice B1 p.Cells.length c]⟩, ⟨B1, (p.Cells.flatMap enc_Dyadic)⟩, ⟨B2, [.int .i64 p1.Rows, .int .i64 p1.Cols, .slice B3 p1.Cells.length c1]⟩, ⟨B3, (p1.Cells.flatMap enc_Dyadic)⟩] := hS10
        refine ⟨(ST.sel hS10 [0, 1] rfl rfl), ?_⟩
        refine ra_all (rs := [7, 12]) (by kernel_rfl) rfl ?_
        refine ra_c 28 (i := 7) rfl rfl rfl (Yc_func (g := 147) (vs := [.agg #[.int .i64 p1.Rows, .int .i64 p1.Cols, .slice B3 p1.Cells.length c1], .int .i64 (i1 : Int), .int .i64 j]) k_call_147 rfl (mc rfl (mc rfl (mc rfl mn))) (c_impl_Matrix_at p1 (i1 : Int) j B3 c1 p1.Cells.length _ rfl (hS10.inn0 [(true, 3)] rfl) hc1)) ?_ ?_
        · rintro _ w_4 ⟨rfl, hd1⟩
          have hS11 := hS10.out00 hd1
          have hS11 : ST w0 [] _ [⟨some ⟨b, 0, none⟩, 83, [.int .i64 0, .int .i64 0, .int .i64 0, .int .i64 0, .int .i64 0], 5⟩, ⟨some ⟨b1, 0, none⟩, 83, [.int .i64 A, .int .i64 B4, .int .i64 C, .int .i64 D, .int .i64 Exp], 5⟩] [⟨B, [.int .i64 p.Rows, .int .i64 p.Cols, .slice B1 p.Cells.length c]⟩, ⟨B1, (p.Cells.flatMap enc_Dyadic)⟩, ⟨B2, [.int .i64 p1.Rows, .int .i64 p1.Cols, .slice B3 p1.Cells.length c1]⟩, ⟨B3, (p1.Cells.flatMap enc_Dyadic)⟩] := hS11
          refine ⟨(ST.sel hS11 [0, 1] rfl rfl), ?_⟩
          refine ra_all (rs := [8, 12]) (by kernel_rfl) rfl ?_
          refine ra_c 29 (i := 8) rfl rfl rfl (Yc_func (g := 146) (vs := [.agg #[.int .i64 r_2.Num.A, .int .i64 r_2.Num.B, .int .i64 r_2.Num.C, .int .i64 r_2.Num.D, .int .i64 r_2.Exp], .agg #[.int .i64 r_3.Num.A, .int .i64 r_3.Num.B, .int .i64 r_3.Num.C, .int .i64 r_3.Num.D, .int .i64 r_3.Exp]]) k_call_146 rfl (mc rfl (mc rfl mn)) (c_impl_MulDyadic r_2 r_3 _  (hS11.inn0 [] rfl) hc2)) ?_ ?_
          · rintro _ w_5 ⟨rfl, hd2⟩
            have hS12 := hS11.out00 hd2
            have hS12 : ST w0 [] _ [⟨some ⟨b, 0, none⟩, 83, [.int .i64 0, .int .i64 0, .int .i64 0, .int .i64 0, .int .i64 0], 5⟩, ⟨some ⟨b1, 0, none⟩, 83, [.int .i64 A, .int .i64 B4, .int .i64 C, .int .i64 D, .int .i64 Exp], 5⟩] [⟨B, [.int .i64 p.Rows, .int .i64 p.Cols, .slice B1 p.Cells.length c]⟩, ⟨B1, (p.Cells.flatMap enc_Dyadic)⟩, ⟨B2, [.int .i64 p1.Rows, .int .i64 p1.Cols, .slice B3 p1.Cells.length c1]⟩, ⟨B3, (p1.Cells.flatMap enc_Dyadic)⟩] := hS12
            refine ⟨(ST.sel hS12 [0, 1] rfl rfl), ?_⟩
            refine ra_q 9 20 (v := .tuple #[.agg #[.int .i64 r_4.Num.A, .int .i64 r_4.Num.B, .int .i64 r_4.Num.C, .int .i64 r_4.Num.D, .int .i64 r_4.Exp], .bool r_5]) rfl rfl rfl (by kernel_rfl) (by kernel_rfl) (by kernel_rfl) (ST.sel hS12 [0, 1] rfl rfl) (fun w' hw' => (Y_move (v := .tuple #[.agg #[.int .i64 r_4.Num.A, .int .i64 r_4.Num.B, .int .i64 r_4.Num.C, .int .i64 r_4.Num.D, .int .i64 r_4.Exp], .bool r_5]) rfl rfl)) ?_
            refine ra_q 10 30 (v := .agg #[.int .i64 r_4.Num.A, .int .i64 r_4.Num.B, .int .i64 r_4.Num.C, .int .i64 r_4.Num.D, .int .i64 r_4.Exp]) rfl rfl rfl (by kernel_rfl) (by kernel_rfl) (by kernel_rfl) (ST.sel hS12 [0, 1] rfl rfl) (fun w' hw' => (Y_extract (v := .agg #[.int .i64 r_4.Num.A, .int .i64 r_4.Num.B, .int .i64 r_4.Num.C, .int .i64 r_4.Num.D, .int .i64 r_4.Exp]) rfl rfl rfl)) ?_
            refine ra_q 11 31 (v := .bool r_5) rfl rfl rfl (by kernel_rfl) (by kernel_rfl) (by kernel_rfl) (ST.sel hS12 [0, 1] rfl rfl) (fun w' hw' => (Y_extract (v := .bool r_5) rfl rfl rfl)) ?_
            refine ra_all (rs := [12]) (by kernel_rfl) rfl ?_
            refine ra_s 10 (i := 12) rfl rfl rfl (Ys_alloc (T := 83) (cs := [.int .i64 0, .int .i64 0, .int .i64 0, .int .i64 0, .int .i64 0]) (m := 5) hS12 k_zero_83 rfl rfl rfl) ?_ ?_
            · rintro _ w_6 ⟨b2, rfl, hS13⟩
              have hS13 : ST w0 [] _ [⟨some ⟨b, 0, none⟩, 83, [.int .i64 0, .int .i64 0, .int .i64 0, .int .i64 0, .int .i64 0], 5⟩, ⟨some ⟨b1, 0, none⟩, 83, [.int .i64 A, .int .i64 B4, .int .i64 C, .int .i64 D, .int .i64 Exp], 5⟩, ⟨some ⟨b2, 0, none⟩, 83, [.int .i64 0, .int .i64 0, .int .i64 0, .int .i64 0, .int .i64 0], 5⟩] [⟨B, [.int .i64 p.Rows, .int .i64 p.Cols, .slice B1 p.Cells.length c]⟩, ⟨B1, (p.Cells.flatMap enc_Dyadic)⟩, ⟨B2, [.int .i64 p1.Rows, .int .i64 p1.Cols, .slice B3 p1.Cells.length c1]⟩, ⟨B3, (p1.Cells.flatMap enc_Dyadic)⟩] := hS13
              refine ⟨(ST.sel hS13 [0, 1] rfl rfl), ?_⟩
              refine ra_all (rs := [13]) (by kernel_rfl) rfl ?_
              refine ra_s0 (i := 13) rfl rfl rfl (Ys_store (i := 2) (s := 5) (B := some ⟨b2, 0, none⟩) (T' := 83) (v := .agg #[.int .i64 r_4.Num.A, .int .i64 r_4.Num.B, .int .i64 r_4.Num.C, .int .i64 r_4.Num.D, .int .i64 r_4.Exp]) (vs := [.int .i64 r_4.Num.A, .int .i64 r_4.Num.B, .int .i64 r_4.Num.C, .int .i64 r_4.Num.D, .int .i64 r_4.Exp]) (k := 0) (cs' := [.int .i64 r_4.Num.A, .int .i64 r_4.Num.B, .int .i64 r_4.Num.C, .int .i64 r_4.Num.D, .int .i64 r_4.Exp]) hS13 k_sz_83_5 rfl rfl rfl rfl rfl rfl rfl (Nat.le_of_ble_eq_true rfl) rfl rfl) ?_ ?_
              · rintro _ w_7 ⟨rfl, hS14⟩
                have hS14 : ST w0 [] _ [⟨some ⟨b, 0, none⟩, 83, [.int .i64 0, .int .i64 0, .int .i64 0, .int .i64 0, .int .i64 0], 5⟩, ⟨some ⟨b1, 0, none⟩, 83, [.int .i64 A, .int .i64 B4, .int .i64 C, .int .i64 D, .int .i64 Exp], 5⟩, ⟨some ⟨b2, 0, none⟩, 83, [.int .i64 r_4.Num.A, .int .i64 r_4.Num.B, .int .i64 r_4.Num.C, .int .i64 r_4.Num.D, .int .i64 r_4.Exp], 5⟩] [⟨B, [.int .i64 p.Rows, .int .i64 p.Cols, .slice B1 p.Cells.length c]⟩, ⟨B1, (p.Cells.flatMap enc_Dyadic)⟩, ⟨B2, [.int .i64 p1.Rows, .int .i64 p1.Cols, .slice B3 p1.Cells.length c1]⟩, ⟨B3, (p1.Cells.flatMap enc_Dyadic)⟩] := hS14
                refine ⟨(ST.sel hS14 [0, 1] rfl rfl), ?_⟩
                refine ra_q 14 11 (v := .bool r_5) rfl rfl rfl (by kernel_rfl) (by kernel_rfl) (by kernel_rfl) (ST.sel hS14 [0, 1] rfl rfl) (fun w' hw' => (Y_assign (v := .bool r_5) rfl rfl)) ?_
                refine ra_done (by kernel_rfl) ?_
                exact ⟨some ⟨b2, 0, none⟩, (FF.cons (hf.get 0 0 rfl) (FF.cons (hf.get 1 1 rfl) (FF.cons (hf.get 2 2 rfl) (FF.cons (hf.get 3 3 rfl) (FF.cons (hf.get 6 4 rfl) (FF.cons (hf.get 8 5 rfl) (FF.cons rfl (FF.cons rfl (FF.cons (hf.get 16 6 rfl) (FF.cons (hf.get 17 7 rfl) FF.nil)))))))))), (hS14.sel [0, 1, 2] rfl rfl)⟩
              exact allR_nil
            exact allR_nil
          refine ra_s 10 (i := 12) rfl rfl rfl (Ys_alloc (T := 83) (cs := [.int .i64 0, .int .i64 0, .int .i64 0, .int .i64 0, .int .i64 0]) (m := 5) hS11 k_zero_83 rfl rfl rfl) ?_ ?_
          · rintro _ w_8 ⟨b2, rfl, hS15⟩
            have hS15 : ST w0 [] _ [⟨some ⟨b, 0, none⟩, 83, [.int .i64 0, .int .i64 0, .int .i64 0, .int .i64 0, .int .i64 0], 5⟩, ⟨some ⟨b1, 0, none⟩, 83, [.int .i64 A, .int .i64 B4, .int .i64 C, .int .i64 D, .int .i64 Exp], 5⟩, ⟨some ⟨b2, 0, none⟩, 83, [.int .i64 0, .int .i64 0, .int .i64 0, .int .i64 0, .int .i64 0], 5⟩] [⟨B, [.int .i64 p.Rows, .int .i64 p.Cols, .slice B1 p.Cells.length c]⟩, ⟨B1, (p.Cells.flatMap enc_Dyadic)⟩, ⟨B2, [.int .i64 p1.Rows, .int .i64 p1.Cols, .slice B3 p1.Cells.length c1]⟩, ⟨B3, (p1.Cells.flatMap enc_Dyadic)⟩] := hS15
            refine ⟨(ST.sel hS15 [0, 1] rfl rfl), ?_⟩
            refine ra_all (rs := [8]) (by kernel_rfl) rfl ?_
            refine ra_c 29 (i := 8) rfl rfl rfl (Yc_func (g := 146) (vs := [.agg #[.int .i64 r_2.Num.A, .int .i64 r_2.Num.B, .int .i64 r_2.Num.C, .int .i64 r_2.Num.D, .int .i64 r_2.Exp], .agg #[.int .i64 r_3.Num.A, .int .i64 r_3.Num.B, .int .i64 r_3.Num.C, .int .i64 r_3.Num.D, .int .i64 r_3.Exp]]) k_call_146 rfl (mc rfl (mc rfl mn)) (c_impl_MulDyadic r_2 r_3 _  (hS15.inn0 [] rfl) hc2)) ?_ ?_
            · rintro _ w_9 ⟨rfl, hd3⟩
              have hS16 := hS15.out00 hd3
              have hS16 : ST w0 [] _ [⟨some ⟨b, 0, none⟩, 83, [.int .i64 0, .int .i64 0, .int .i64 0, .int .i64 0, .int .i64 0], 5⟩, ⟨some ⟨b1, 0, none⟩, 83, [.int .i64 A, .int .i64 B4, .int .i64 C, .int .i64 D, .int .i64 Exp], 5⟩, ⟨some ⟨b2, 0, none⟩, 83, [.int .i64 0, .int .i64 0, .int .i64 0, .int .i64 0, .int .i64 0], 5⟩] [⟨B, [.int .i64 p.Rows, .int .i64 p.Cols, .slice B1 p.Cells.length c]⟩, ⟨B1, (p.Cells.flatMap enc_Dyadic)⟩, ⟨B2, [.int .i64 p1.Rows, .int .i64 p1.Cols, .slice B3 p1.Cells.length c1]⟩, ⟨B3, (p1.Cells.flatMap enc_Dyadic)⟩] := hS16
              refine ⟨(ST.sel hS16 [0, 1] rfl rfl), ?_⟩
              refine ra_q 9 20 (v := .tuple #[.agg #[.int .i64 r_4.Num.A, .int .i64 r_4.Num.B, .int .i64 r_4.Num.C, .int .i64 r_4.Num.D, .int .i64 r_4.Exp], .bool r_5]) rfl rfl rfl (by kernel_rfl) (by kernel_rfl) (by kernel_rfl) (ST.sel hS16 [0, 1] rfl rfl) (fun w' hw' => (Y_move (v := .tuple #[.agg #[.int .i64 r_4.Num.A, .int .i64 r_4.Num.B, .int .i64 r_4.Num.C, .int .i64 r_4.Num.D, .int .i64 r_4.Exp], .bool r_5]) rfl rfl)) ?_
              refine ra_q 10 30 (v := .agg #[.int .i64 r_4.Num.A, .int .i64 r_4.Num.B, .int .i64 r_4.Num.C, .int .i64 r_4.Num.D, .int .i64 r_4.Exp]) rfl rfl rfl (by kernel_rfl) (by kernel_rfl) (by kernel_rfl) (ST.sel hS16 [0, 1] rfl rfl) (fun w' hw' => (Y_extract (v := .agg #[.int .i64 r_4.Num.A, .int .i64 r_4.Num.B, .int .i64 r_4.Num.C, .int .i64 r_4.Num.D, .int .i64 r_4.Exp]) rfl rfl rfl)) ?_
              refine ra_q 11 31 (v := .bool r_5) rfl rfl rfl (by kernel_rfl) (by kernel_rfl) (by kernel_rfl) (ST.sel hS16 [0, 1] rfl rfl) (fun w' hw' => (Y_extract (v := .bool r_5) rfl rfl rfl)) ?_
              refine ra_all (rs := [13]) (by kernel_rfl) rfl ?_
              refine ra_s0 (i := 13) rfl rfl rfl (Ys_store (i := 2) (s := 5) (B := some ⟨b2, 0, none⟩) (T' := 83) (v := .agg #[.int .i64 r_4.Num.A, .int .i64 r_4.Num.B, .int .i64 r_4.Num.C, .int .i64 r_4.Num.D, .int .i64 r_4.Exp]) (vs := [.int .i64 r_4.Num.A, .int .i64 r_4.Num.B, .int .i64 r_4.Num.C, .int .i64 r_4.Num.D, .int .i64 r_4.Exp]) (k := 0) (cs' := [.int .i64 r_4.Num.A, .int .i64 r_4.Num.B, .int .i64 r_4.Num.C, .int .i64 r_4.Num.D, .int .i64 r_4.Exp]) hS16 k_sz_83_5 rfl rfl rfl rfl rfl rfl rfl (Nat.le_of_ble_eq_true rfl) rfl rfl) ?_ ?_
              · rintro _ w_10 ⟨rfl, hS17⟩
                have hS17 : ST w0 [] _ [⟨some ⟨b, 0, none⟩, 83, [.int .i64 0, .int .i64 0, .int .i64 0, .int .i64 0, .int .i64 0], 5⟩, ⟨some ⟨b1, 0, none⟩, 83, [.int .i64 A, .int .i64 B4, .int .i64 C, .int .i64 D, .int .i64 Exp], 5⟩, ⟨some ⟨b2, 0, none⟩, 83, [.int .i64 r_4.Num.A, .int .i64 r_4.Num.B, .int .i64 r_4.Num.C, .int .i64 r_4.Num.D, .int .i64 r_4.Exp], 5⟩] [⟨B, [.int .i64 p.Rows, .int .i64 p.Cols, .slice B1 p.Cells.length c]⟩, ⟨B1, (p.Cells.flatMap enc_Dyadic)⟩, ⟨B2, [.int .i64 p1.Rows, .int .i64 p1.Cols, .slice B3 p1.Cells.length c1]⟩, ⟨B3, (p1.Cells.flatMap enc_Dyadic)⟩] := hS17
                refine ⟨(ST.sel hS17 [0, 1] rfl rfl), ?_⟩
                refine ra_q 14 11 (v := .bool r_5) rfl rfl rfl (by kernel_rfl) (by kernel_rfl) (by kernel_rfl) (ST.sel hS17 [0, 1] rfl rfl) (fun w' hw' => (Y_assign (v := .bool r_5) rfl rfl)) ?_
                refine ra_done (by kernel_rfl) ?_
                exact ⟨some ⟨b2, 0, none⟩, (FF.cons (hf.get 0 0 rfl) (FF.cons (hf.get 1 1 rfl) (FF.cons (hf.get 2 2 rfl) (FF.cons (hf.get 3 3 rfl) (FF.cons (hf.get 6 4 rfl) (FF.cons (hf.get 8 5 rfl) (FF.cons rfl (FF.cons rfl (FF.cons (hf.get 16 6 rfl) (FF.cons (hf.get 17 7 rfl) FF.nil)))))))))), (hS17.sel [0, 1, 2] rfl rfl)⟩
              exact allR_nil
            exact allR_nil
          exact allR_nil
        refine ra_s 10 (i := 12) rfl rfl rfl (Ys_alloc (T := 83) (cs := [.int .i64 0, .int .i64 0, .int .i64 0, .int .i64 0, .int .i64 0]) (m := 5) hS10 k_zero_83 rfl rfl rfl) ?_ ?_
        · rintro _ w_11 ⟨b2, rfl, hS18⟩
          have hS18 : ST w0 [] _ [⟨some ⟨b, 0, none⟩, 83, [.int .i64 0, .int .i64 0, .int .i64 0, .int .i64 0, .int .i64 0], 5⟩, ⟨some ⟨b1, 0, none⟩, 83, [.int .i64 A, .int .i64 B4, .int .i64 C, .int .i64 D, .int .i64 Exp], 5⟩, ⟨some ⟨b2, 0, none⟩, 83, [.int .i64 0, .int .i64 0, .int .i64 0, .int .i64 0, .int .i64 0], 5⟩] [⟨B, [.int .i64 p.Rows, .int .i64 p.Cols, .slice B1 p.Cells.length c]⟩, ⟨B1, (p.Cells.flatMap enc_Dyadic)⟩, ⟨B2, [.int .i64 p1.Rows, .int .i64 p1.Cols, .slice B3 p1.Cells.length c1]⟩, ⟨B3, (p1.Cells.flatMap enc_Dyadic)⟩] := hS18
          refine ⟨(ST.sel hS18 [0, 1] rfl rfl), ?_⟩
          refine ra_all (rs := [7]) (by kernel_rfl) rfl ?_
          refine ra_c 28 (i := 7) rfl rfl rfl (Yc_func (g := 147) (vs := [.agg #[.int .i64 p1.Rows, .int .i64 p1.Cols, .slice B3 p1.Cells.length c1], .int .i64 (i1 : Int), .int .i64 j]) k_call_147 rfl (mc rfl (mc rfl (mc rfl mn))) (c_impl_Matrix_at p1 (i1 : Int) j B3 c1 p1.Cells.length _ rfl (hS18.inn0 [(true, 3)] rfl) hc1)) ?_ ?_
          · rintro _ w_12 ⟨rfl, hd4⟩
            have hS19 := hS18.out00 hd4
            have hS19 : ST w0 [] _ [⟨some ⟨b, 0, none⟩, 83, [.int .i64 0, .int .i64 0, .int .i64 0, .int .i64 0, .int .i64 0], 5⟩, ⟨some ⟨b1, 0, none⟩, 83, [.int .i64 A, .int .i64 B4, .int .i64 C, .int .i64 D, .int .i64 Exp], 5⟩, ⟨some ⟨b2, 0, none⟩, 83, [.int .i64 0, .int .i64 0, .int .i64 0, .int .i64 0, .int .i64 0], 5⟩] [⟨B, [.int .i64 p.Rows, .int .i64 p.Cols, .slice B1 p.Cells.length c]⟩, ⟨B1, (p.Cells.flatMap enc_Dyadic)⟩, ⟨B2, [.int .i64 p1.Rows, .int .i64 p1.Cols, .slice B3 p1.Cells.length c1]⟩, ⟨B3, (p1.Cells.flatMap enc_Dyadic)⟩] := hS19
            refine ⟨(ST.sel hS19 [0, 1] rfl rfl), ?_⟩
            refine ra_all (rs := [8]) (by kernel_rfl) rfl ?_
            refine ra_c 29 (i := 8) rfl rfl rfl (Yc_func (g := 146) (vs := [.agg #[.int .i64 r_2.Num.A, .int .i64 r_2.Num.B, .int .i64 r_2.Num.C, .int .i64 r_2.Num.D, .int .i64 r_2.Exp], .agg #[.int .i64 r_3.Num.A, .int .i64 r_3.Num.B, .int .i64 r_3.Num.C, .int .i64 r_3.Num.D, .int .i64 r_3.Exp]]) k_call_146 rfl (mc rfl (mc rfl mn)) (c_impl_MulDyadic r_2 r_3 _  (hS19.inn0 [] rfl) hc2)) ?_ ?_
            · rintro _ w_13 ⟨rfl, hd5⟩
              have hS20 := hS19.out00 hd5
              have hS20 : ST w0 [] _ [⟨some ⟨b, 0, none⟩, 83, [.int .i64 0, .int .i64 0, .int .i64 0, .int .i64 0, .int .i64 0], 5⟩, ⟨some ⟨b1, 0, none⟩, 83, [.int .i64 A, .int .i64 B4, .int .i64 C, .int .i64 D, .int .i64 Exp], 5⟩, ⟨some ⟨b2, 0, none⟩, 83, [.int .i64 0, .int .i64 0, .int .i64 0, .int .i64 0, .int .i64 0], 5⟩] [⟨B, [.int .i64 p.Rows, .int .i64 p.Cols, .slice B1 p.Cells.length c]⟩, ⟨B1, (p.Cells.flatMap enc_Dyadic)⟩, ⟨B2, [.int .i64 p1.Rows, .int .i64 p1.Cols, .slice B3 p1.Cells.length c1]⟩, ⟨B3, (p1.Cells.flatMap enc_Dyadic)⟩] := hS20
              refine ⟨(ST.sel hS20 [0, 1] rfl rfl), ?_⟩
              refine ra_q 9 20 (v := .tuple #[.agg #[.int .i64 r_4.Num.A, .int .i64 r_4.Num.B, .int .i64 r_4.Num.C, .int .i64 r_4.Num.D, .int .i64 r_4.Exp], .bool r_5]) rfl rfl rfl (by kernel_rfl) (by kernel_rfl) (by kernel_rfl) (ST.sel hS20 [0, 1] rfl rfl) (fun w' hw' => (Y_move (v := .tuple #[.agg #[.int .i64 r_4.Num.A, .int .i64 r_4.Num.B, .int .i64 r_4.Num.C, .int .i64 r_4.Num.D, .int .i64 r_4.Exp], .bool r_5]) rfl rfl)) ?_
              refine ra_q 10 30 (v := .agg #[.int .i64 r_4.Num.A, .int .i64 r_4.Num.B, .int .i64 r_4.Num.C, .int .i64 r_4.Num.D, .int .i64 r_4.Exp]) rfl rfl rfl (by kernel_rfl) (by kernel_rfl) (by kernel_rfl) (ST.sel hS20 [0, 1] rfl rfl) (fun w' hw' => (Y_extract (v := .agg #[.int .i64 r_4.Num.A, .int .i64 r_4.Num.B, .int .i64 r_4.Num.C, .int .i64 r_4.Num.D, .int .i64 r_4.Exp]) rfl rfl rfl)) ?_
              refine ra_q 11 31 (v := .bool r_5) rfl rfl rfl (by kernel_rfl) (by kernel_rfl) (by kernel_rfl) (ST.sel hS20 [0, 1] rfl rfl) (fun w' hw' => (Y_extract (v := .bool r_5) rfl rfl rfl)) ?_
              refine ra_all (rs := [13]) (by kernel_rfl) rfl ?_
              refine ra_s0 (i := 13) rfl rfl rfl (Ys_store (i := 2) (s := 5) (B := some ⟨b2, 0, none⟩) (T' := 83) (v := .agg #[.int .i64 r_4.Num.A, .int .i64 r_4.Num.B, .int .i64 r_4.Num.C, .int .i64 r_4.Num.D, .int .i64 r_4.Exp]) (vs := [.int .i64 r_4.Num.A, .int .i64 r_4.Num.B, .int .i64 r_4.Num.C, .int .i64 r_4.Num.D, .int .i64 r_4.Exp]) (k := 0) (cs' := [.int .i64 r_4.Num.A, .int .i64 r_4.Num.B, .int .i64 r_4.Num.C, .int .i64 r_4.Num.D, .int .i64 r_4.Exp]) hS20 k_sz_83_5 rfl rfl rfl rfl rfl rfl rfl (Nat.le_of_ble_eq_true rfl) rfl rfl) ?_ ?_
              · rintro _ w_14 ⟨rfl, hS21⟩
                have hS21 : ST w0 [] _ [⟨some ⟨b, 0, none⟩, 83, [.int .i64 0, .int .i64 0, .int .i64 0, .int .i64 0, .int .i64 0], 5⟩, ⟨some ⟨b1, 0, none⟩, 83, [.int .i64 A, .int .i64 B4, .int .i64 C, .int .i64 D, .int .i64 Exp], 5⟩, ⟨some ⟨b2, 0, none⟩, 83, [.int .i64 r_4.Num.A, .int .i64 r_4.Num.B, .int .i64 r_4.Num.C, .int .i64 r_4.Num.D, .int .i64 r_4.Exp], 5⟩] [⟨B, [.int .i64 p.Rows, .int .i64 p.Cols, .slice B1 p.Cells.length c]⟩, ⟨B1, (p.Cells.flatMap enc_Dyadic)⟩, ⟨B2, [.int .i64 p1.Rows, .int .i64 p1.Cols, .slice B3 p1.Cells.length c1]⟩, ⟨B3, (p1.Cells.flatMap enc_Dyadic)⟩] := hS21
                refine ⟨(ST.sel hS21 [0, 1] rfl rfl), ?_⟩
                refine ra_q 14 11 (v := .bool r_5) rfl rfl rfl (by kernel_rfl) (by kernel_rfl) (by kernel_rfl) (ST.sel hS21 [0, 1] rfl rfl) (fun w' hw' => (Y_assign (v := .bool r_5) rfl rfl)) ?_
                refine ra_done (by kernel_rfl) ?_
                exact ⟨some ⟨b2, 0, none⟩, (FF.cons (hf.get 0 0 rfl) (FF.cons (hf.get 1 1 rfl) (FF.cons (hf.get 2 2 rfl) (FF.cons (hf.get 3 3 rfl) (FF.cons (hf.get 6 4 rfl) (FF.cons (hf.get 8 5 rfl) (FF.cons rfl (FF.cons rfl (FF.cons (hf.get 16 6 rfl) (FF.cons (hf.get 17 7 rfl) FF.nil)))))))))), (hS21.sel [0, 1, 2] rfl rfl)⟩
              exact allR_nil
            exact allR_nil
          exact allR_nil
        exact allR_nil
      refine ra_s 10 (i := 12) rfl rfl rfl (Ys_alloc (T := 83) (cs := [.int .i64 0, .int .i64 0, .int .i64 0, .int .i64 0, .int .i64 0]) (m := 5) hS9 k_zero_83 rfl rfl rfl) ?_ ?_
      · rintro _ w_15 ⟨b2, rfl, hS22⟩
        have hS22 : ST w0 [] _ [⟨some ⟨b, 0, none⟩, 83, [.int .i64 0, .int .i64 0, .int .i64 0, .int .i64 0, .int .i64 0], 5⟩, ⟨some ⟨b1, 0, none⟩, 83, [.int .i64 A, .int .i64 B4, .int .i64 C, .int .i64 D, .int .i64 Exp], 5⟩, ⟨some ⟨b2, 0, none⟩, 83, [.int .i64 0, .int .i64 0, .int .i64 0, .int .i64 0, .int .i64 0], 5⟩] [⟨B, [.int .i64 p.Rows, .int .i64 p.Cols, .slice B1 p.Cells.length c]⟩, ⟨B1, (p.Cells.flatMap enc_Dyadic)⟩, ⟨B2, [.int .i64 p1.Rows, .int .i64 p1.Cols, .slice B3 p1.Cells.length c1]⟩, ⟨B3, (p1.Cells.flatMap enc_Dyadic)⟩] := hS22
        refine ⟨(ST.sel hS22 [0, 1] rfl rfl), ?_⟩
        refine ra_all (rs := [3]) (by kernel_rfl) rfl ?_
        refine ra_c 24 (i := 3) rfl rfl rfl (Yc_func (g := 147) (vs := [.agg #[.int .i64 p.Rows, .int .i64 p.Cols, .slice B1 p.Cells.length c], .int .i64 i, .int .i64 (i1 : Int)]) k_call_147 rfl (mc rfl (mc rfl (mc rfl mn))) (c_impl_Matrix_at p i (i1 : Int) B1 c p.Cells.length _ rfl (hS22.inn0 [(true, 1)] rfl) hc)) ?_ ?_
        · rintro _ w_16 ⟨rfl, hd6⟩
          have hS23 := hS22.out00 hd6
          have hS23 : ST w0 [] _ [⟨some ⟨b, 0, none⟩, 83, [.int .i64 0, .int .i64 0, .int .i64 0, .int .i64 0, .int .i64 0], 5⟩, ⟨some ⟨b1, 0, none⟩, 83, [.int .i64 A, .int .i64 B4, .int .i64 C, .int .i64 D, .int .i64 Exp], 5⟩, ⟨some ⟨b2, 0, none⟩, 83, [.int .i64 0, .int .i64 0, .int .i64 0, .int .i64 0, .int .i64 0], 5⟩] [⟨B, [.int .i64 p.Rows, .int .i64 p.Cols, .slice B1 p.Cells.length c]⟩, ⟨B1, (p.Cells.flatMap enc_Dyadic)⟩, ⟨B2, [.int .i64 p1.Rows, .int .i64 p1.Cols, .slice B3 p1.Cells.length c1]⟩, ⟨B3, (p1.Cells.flatMap enc_Dyadic)⟩] := hS23
          refine ⟨(ST.sel hS23 [0, 1] rfl rfl), ?_⟩
          refine ra_all (rs := [7]) (by kernel_rfl) rfl ?_
          refine ra_c 28 (i := 7) rfl rfl rfl (Yc_func (g := 147) (vs := [.agg #[.int .i64 p1.Rows, .int .i64 p1.Cols, .slice B3 p1.Cells.length c1], .int .i64 (i1 : Int), .int .i64 j]) k_call_147 rfl (mc rfl (mc rfl (mc rfl mn))) (c_impl_Matrix_at p1 (i1 : Int) j B3 c1 p1.Cells.length _ rfl (hS23.inn0 [(true, 3)] rfl) hc1)) ?_ ?_
          · rintro _ w_17 ⟨rfl, hd7⟩
            have hS24 := hS23.out00 hd7
            have hS24 : ST w0 [] _ [⟨some ⟨b, 0, none⟩, 83, [.int .i64 0, .int .i64 0, .int .i64 0, .int .i64 0, .int .i64 0], 5⟩, ⟨some ⟨b1, 0, none⟩, 83, [.int .i64 A, .int .i64 B4, .int .i64 C, .int .i64 D, .int .i64 Exp], 5⟩, ⟨some ⟨b2, 0, none⟩, 83, [.int .i64 0, .int .i64 0, .int .i64 0, .int .i64 0, .int .i64 0], 5⟩] [⟨B, [.int .i64 p.Rows, .int .i64 p.Cols, .slice B1 p.Cells.length c]⟩, ⟨B1, (p.Cells.flatMap enc_Dyadic)⟩, ⟨B2, [.int .i64 p1.Rows, .int .i64 p1.Cols, .slice B3 p1.Cells.length c1]⟩, ⟨B3, (p1.Cells.flatMap enc_Dyadic)⟩] := hS24
            refine ⟨(ST.sel hS24 [0, 1] rfl rfl), ?_⟩
            refine ra_all (rs := [8]) (by kernel_rfl) rfl ?_
            refine ra_c 29 (i := 8) rfl rfl rfl (Yc_func (g := 146) (vs := [.agg #[.int .i64 r_2.Num.A, .int .i64 r_2.Num.B, .int .i64 r_2.Num.C, .int .i64 r_2.Num.D, .int .i64 r_2.Exp], .agg #[.int .i64 r_3.Num.A, .int .i64 r_3.Num.B, .int .i64 r_3.Num.C, .int .i64 r_3.Num.D, .int .i64 r_3.Exp]]) k_call_146 rfl (mc rfl (mc rfl mn)) (c_impl_MulDyadic r_2 r_3 _  (hS24.inn0 [] rfl) hc2)) ?_ ?_
            · rintro _ w_18 ⟨rfl, hd8⟩
              have hS25 := hS24.out00 hd8
              have hS25 : ST w0 [] _ [⟨some ⟨b, 0, none⟩, 83, [.int .i64 0, .int .i64 0, .int .i64 0, .int .i64 0, .int .i64 0], 5⟩, ⟨some ⟨b1, 0, none⟩, 83, [.int .i64 A, .int .i64 B4, .int .i64 C, .int .i64 D, .int .i64 Exp], 5⟩, ⟨some ⟨b2, 0, none⟩, 83, [.int .i64 0, .int .i64 0, .int .i64 0, .int .i64 0, .int .i64 0], 5⟩] [⟨B, [.int .i64 p.Rows, .int .i64 p.Cols, .slice B1 p.Cells.length c]⟩, ⟨B1, (p.Cells.flatMap enc_Dyadic)⟩, ⟨B2, [.int .i64 p1.Rows, .int .i64 p1.Cols, .slice B3 p1.Cells.length c1]⟩, ⟨B3, (p1.Cells.flatMap enc_Dyadic)⟩] := hS25
              refine ⟨(ST.sel hS25 [0, 1] rfl rfl), ?_⟩
              refine ra_q 9 20 (v := .tuple #[.agg #[.int .i64 r_4.Num.A, .int .i64 r_4.Num.B, .int .i64 r_4.Num.C, .int .i64 r_4.Num.D, .int .i64 r_4.Exp], .bool r_5]) rfl rfl rfl (by kernel_rfl) (by kernel_rfl) (by kernel_rfl) (ST.sel hS25 [0, 1] rfl rfl) (fun w' hw' => (Y_move (v := .tuple #[.agg #[.int .i64 r_4.Num.A, .int .i64 r_4.Num.B, .int .i64 r_4.Num.C, .int .i64 r_4.Num.D, .int .i64 r_4.Exp], .bool r_5]) rfl rfl)) ?_
              refine ra_q 10 30 (v := .agg #[.int .i64 r_4.Num.A, .int .i64 r_4.Num.B, .int .i64 r_4.Num.C, .int .i64 r_4.Num.D, .int .i64 r_4.Exp]) rfl rfl rfl (by kernel_rfl) (by kernel_rfl) (by kernel_rfl) (ST.sel hS25 [0, 1] rfl rfl) (fun w' hw' => (Y_extract (v := .agg #[.int .i64 r_4.Num.A, .int .i64 r_4.Num.B, .int .i64 r_4.Num.C, .int .i64 r_4.Num.D, .int .i64 r_4.Exp]) rfl rfl rfl)) ?_
              refine ra_q 11 31 (v := .bool r_5) rfl rfl rfl (by kernel_rfl) (by kernel_rfl) (by kernel_rfl) (ST.sel hS25 [0, 1] rfl rfl) (fun w' hw' => (Y_extract (v := .bool r_5) rfl rfl rfl)) ?_
              refine ra_all (rs := [13]) (by kernel_rfl) rfl ?_
              refine ra_s0 (i := 13) rfl rfl rfl (Ys_store (i := 2) (s := 5) (B := some ⟨b2, 0, none⟩) (T' := 83) (v := .agg #[.int .i64 r_4.Num.A, .int .i64 r_4.Num.B, .int .i64 r_4.Num.C, .int .i64 r_4.Num.D, .int .i64 r_4.Exp]) (vs := [.int .i64 r_4.Num.A, .int .i64 r_4.Num.B, .int .i64 r_4.Num.C, .int .i64 r_4.Num.D, .int .i64 r_4.Exp]) (k := 0) (cs' := [.int .i64 r_4.Num.A, .int .i64 r_4.Num.B, .int .i64 r_4.Num.C, .int .i64 r_4.Num.D, .int .i64 r_4.Exp]) hS25 k_sz_83_5 rfl rfl rfl rfl rfl rfl rfl (Nat.le_of_ble_eq_true rfl) rfl rfl) ?_ ?_
              · rintro _ w_19 ⟨rfl, hS26⟩
                have hS26 : ST w0 [] _ [⟨some ⟨b, 0, none⟩, 83, [.int .i64 0, .int .i64 0, .int .i64 0, .int .i64 0, .int .i64 0], 5⟩, ⟨some ⟨b1, 0, none⟩, 83, [.int .i64 A, .int .i64 B4, .int .i64 C, .int .i64 D, .int .i64 Exp], 5⟩, ⟨some ⟨b2, 0, none⟩, 83, [.int .i64 r_4.Num.A, .int .i64 r_4.Num.B, .int .i64 r_4.Num.C, .int .i64 r_4.Num.D, .int .i64 r_4.Exp], 5⟩] [⟨B, [.int .i64 p.Rows, .int .i64 p.Cols, .slice B1 p.Cells.length c]⟩, ⟨B1, (p.Cells.flatMap enc_Dyadic)⟩, ⟨B2, [.int .i64 p1.Rows, .int .i64 p1.Cols, .slice B3 p1.Cells.length c1]⟩, ⟨B3, (p1.Cells.flatMap enc_Dyadic)⟩] := hS26
                refine ⟨(ST.sel hS26 [0, 1] rfl rfl), ?_⟩
                refine ra_q 14 11 (v := .bool r_5) rfl rfl rfl (by kernel_rfl) (by kernel_rfl) (by kernel_rfl) (ST.sel hS26 [0, 1] rfl rfl) (fun w' hw' => (Y_assign (v := .bool r_5) rfl rfl)) ?_
                refine ra_done (by kernel_rfl) ?_
                exact ⟨some ⟨b2, 0, none⟩, (FF.cons (hf.get 0 0 rfl) (FF.cons (hf.get 1 1 rfl) (FF.cons (hf.get 2 2 rfl) (FF.cons (hf.get 3 3 rfl) (FF.cons (hf.get 6 4 rfl) (FF.cons (hf.get 8 5 rfl) (FF.cons rfl (FF.cons rfl (FF.cons (hf.get 16 6 rfl) (FF.cons (hf.get 17 7 rfl) FF.nil)))))))))), (hS26.sel [0, 1, 2] rfl rfl)⟩
              exact allR_nil
            exact allR_nil
          exact allR_nil
        exact allR_nil
      exact allR_nil
    rintro f w ⟨B5, hf1, hS8⟩
    refine cw_seq ?_
    refine cw_region ?_
    refine sq 33 rfl rfl (Y_loadA (B := some ⟨b1, 0, none⟩) (i := 0) (cs := [.int .i64 A, .int .i64 B4, .int .i64 C, .int .i64 D, .int .i64 Exp]) (vs := [.int .i64 A, .int .i64 B4, .int .i64 C, .int .i64 D, .int .i64 Exp]) k_ag_83 k_sz_83_5 rfl (hf1.get 8 5 rfl) (hS8.cf (i := 1) rfl) rfl rfl) ?_
    refine sq 34 rfl rfl (Y_loadA (B := B5) (i := 0) (cs := [.int .i64 r_4.Num.A, .int .i64 r_4.Num.B, .int .i64 r_4.Num.C, .int .i64 r_4.Num.D, .int .i64 r_4.Exp]) (vs := [.int .i64 r_4.Num.A, .int .i64 r_4.Num.B, .int .i64 r_4.Num.C, .int .i64 r_4.Num.D, .int .i64 r_4.Exp]) k_ag_83 k_sz_83_5 rfl (hf1.get 10 6 rfl) (hS8.cf (i := 2) rfl) rfl rfl) ?_
    obtain ⟨⟨r_6, r_7⟩, hc3, hb⟩ := bind_inv hb
    refine sc 35 rfl rfl (Yc_func (g := 116) (vs := [.agg #[.int .i64 A, .int .i64 B4, .int .i64 C, .int .i64 D, .int .i64 Exp], .agg #[.int .i64 r_4.Num.A, .int .i64 r_4.Num.B, .int .i64 r_4.Num.C, .int .i64 r_4.Num.D, .int .i64 r_4.Exp]]) k_call_116 rfl (mc rfl (mc rfl mn)) (c_impl_AddDyadic (TDyadic.mk (TRing.mk A B4 C D) Exp) r_4 _  (hS8.inn0 [] rfl) hc3)) ?_
    rintro _ w_20 ⟨rfl, hd9⟩
    have hS27 := hS8.out00 hd9
    have hS27 : ST w0 [] _ [⟨some ⟨b, 0, none⟩, 83, [.int .i64 0, .int .i64 0, .int .i64 0, .int .i64 0, .int .i64 0], 5⟩, ⟨some ⟨b1, 0, none⟩, 83, [.int .i64 A, .int .i64 B4, .int .i64 C, .int .i64 D, .int .i64 Exp], 5⟩, ⟨B5, 83, [.int .i64 r_4.Num.A, .int .i64 r_4.Num.B, .int .i64 r_4.Num.C, .int .i64 r_4.Num.D, .int .i64 r_4.Exp], 5⟩] [⟨B, [.int .i64 p.Rows, .int .i64 p.Cols, .slice B1 p.Cells.length c]⟩, ⟨B1, (p.Cells.flatMap enc_Dyadic)⟩, ⟨B2, [.int .i64 p1.Rows, .int .i64 p1.Cols, .slice B3 p1.Cells.length c1]⟩, ⟨B3, (p1.Cells.flatMap enc_Dyadic)⟩] := hS27
    refine sq 32 rfl rfl (Y_move (v := .tuple #[.agg #[.int .i64 r_6.Num.A, .int .i64 r_6.Num.B, .int .i64 r_6.Num.C, .int .i64 r_6.Num.D, .int .i64 r_6.Exp], .bool r_7]) rfl rfl) ?_
    refine sq 36 rfl rfl (Y_extract (v := .agg #[.int .i64 r_6.Num.A, .int .i64 r_6.Num.B, .int .i64 r_6.Num.C, .int .i64 r_6.Num.D, .int .i64 r_6.Exp]) rfl rfl rfl) ?_
    refine sq 37 rfl rfl (Y_extract (v := .bool r_7) rfl rfl rfl) ?_
    refine ss 12 rfl rfl (Ys_alloc (T := 83) (cs := [.int .i64 0, .int .i64 0, .int .i64 0, .int .i64 0, .int .i64 0]) (m := 5) hS27 k_zero_83 rfl rfl rfl) ?_
    rintro _ w_21 ⟨b3, rfl, hS28⟩
    have hS28 : ST w0 [] _ [⟨some ⟨b, 0, none⟩, 83, [.int .i64 0, .int .i64 0, .int .i64 0, .int .i64 0, .int .i64 0], 5⟩, ⟨some ⟨b1, 0, none⟩, 83, [.int .i64 A, .int .i64 B4, .int .i64 C, .int .i64 D, .int .i64 Exp], 5⟩, ⟨B5, 83, [.int .i64 r_4.Num.A, .int .i64 r_4.Num.B, .int .i64 r_4.Num.C, .int .i64 r_4.Num.D, .int .i64 r_4.Exp], 5⟩, ⟨some ⟨b3, 0, none⟩, 83, [.int .i64 0, .int .i64 0, .int .i64 0, .int .i64 0, .int .i64 0], 5⟩] [⟨B, [.int .i64 p.Rows, .int .i64 p.Cols, .slice B1 p.Cells.length c]⟩, ⟨B1, (p.Cells.flatMap enc_Dyadic)⟩, ⟨B2, [.int .i64 p1.Rows, .int .i64 p1.Cols, .slice B3 p1.Cells.length c1]⟩, ⟨B3, (p1.Cells.flatMap enc_Dyadic)⟩] := hS28
    refine ss0 rfl rfl (Ys_store (i := 3) (s := 5) (B := some ⟨b3, 0, none⟩) (T' := 83) (v := .agg #[.int .i64 r_6.Num.A, .int .i64 r_6.Num.B, .int .i64 r_6.Num.C, .int .i64 r_6.Num.D, .int .i64 r_6.Exp]) (vs := [.int .i64 r_6.Num.A, .int .i64 r_6.Num.B, .int .i64 r_6.Num.C, .int .i64 r_6.Num.D, .int .i64 r_6.Exp]) (k := 0) (cs' := [.int .i64 r_6.Num.A, .int .i64 r_6.Num.B, .int .i64 r_6.Num.C, .int .i64 r_6.Num.D, .int .i64 r_6.Exp]) hS28 k_sz_83_5 rfl rfl rfl rfl rfl rfl rfl (Nat.le_of_ble_eq_true rfl) rfl rfl) ?_
    rintro _ w_22 ⟨rfl, hS29⟩
    have hS29 : ST w0 [] _ [⟨some ⟨b, 0, none⟩, 83, [.int .i64 0, .int .i64 0, .int .i64 0, .int .i64 0, .int .i64 0], 5⟩, ⟨some ⟨b1, 0, none⟩, 83, [.int .i64 A, .int .i64 B4, .int .i64 C, .int .i64 D, .int .i64 Exp], 5⟩, ⟨B5, 83, [.int .i64 r_4.Num.A, .int .i64 r_4.Num.B, .int .i64 r_4.Num.C, .int .i64 r_4.Num.D, .int .i64 r_4.Exp], 5⟩, ⟨some ⟨b3, 0, none⟩, 83, [.int .i64 r_6.Num.A, .int .i64 r_6.Num.B, .int .i64 r_6.Num.C, .int .i64 r_6.Num.D, .int .i64 r_6.Exp], 5⟩] [⟨B, [.int .i64 p.Rows, .int .i64 p.Cols, .slice B1 p.Cells.length c]⟩, ⟨B1, (p.Cells.flatMap enc_Dyadic)⟩, ⟨B2, [.int .i64 p1.Rows, .int .i64 p1.Cols, .slice B3 p1.Cells.length c1]⟩, ⟨B3, (p1.Cells.flatMap enc_Dyadic)⟩] := hS29
    refine sq 13 rfl rfl (Y_assign (v := .bool r_7) rfl rfl) ?_
    refine rw_nil ?_
    refine cw_seq ?_
    refine cw_seq ?_
    refine cw_region ?_
    refine sq 38 rfl rfl (Y_move (v := .bool r_5) rfl (hf1.get 11 7 rfl)) ?_
    refine sq 39 rfl rfl (Y_not (p := r_5) rfl rfl) ?_
    refine sq 40 rfl rfl (Y_move (v := .bool (!r_5)) rfl rfl) ?_
    refine sgq 41 (B := (!(!r_5))) (v := .bool r_7) rfl rfl (wt_f (gd_of (t := 40) (by kernel_rfl) rfl)) (fun hg => (Y_move (v := .bool r_7) rfl rfl)) ?_
    refine sgq 42 (B := (!(!r_5))) (v := .bool (!r_7)) rfl rfl (wt_f (gd_of (t := 40) (by kernel_rfl) rfl)) (fun hg1 => (Y_not (p := r_7) rfl (gv_of (B := (!(!r_5))) (v := .bool r_7) hg1))) ?_
    refine sq 43 rfl rfl (Y_or (b := (!r_5)) (z := (!r_7)) rfl rfl rfl rfl) ?_
    refine rw_nil ?_
    refine cw_cond (b := ((!r_5) || (!r_7))) rfl (fun hb1 => ?_) (fun hb1 => ?_)
    · skip
      have hF2 := ct hb hb1
      refine cw_seq ?_
      refine cw_region ?_
      refine sq 44 rfl rfl (Y_buildS (zs := [.int .i64 0, .int .i64 0, .int .i64 0, .int .i64 0, .int .i64 0]) (vs := []) (cs := [.int .i64 0, .int .i64 0, .int .i64 0, .int .i64 0, .int .i64 0]) k_pl_83 k_zero_83 rfl mpn rfl) ?_
      refine ss0 rfl rfl (Ys_store (i := 0) (s := 5) (B := some ⟨b, 0, none⟩) (T' := 83) (v := .agg #[.int .i64 0, .int .i64 0, .int .i64 0, .int .i64 0, .int .i64 0]) (vs := [.int .i64 0, .int .i64 0, .int .i64 0, .int .i64 0, .int .i64 0]) (k := 0) (cs' := [.int .i64 0, .int .i64 0, .int .i64 0, .int .i64 0, .int .i64 0]) hS29 k_sz_83_5 rfl (hf1.get 6 4 rfl) rfl rfl rfl rfl rfl (Nat.le_of_ble_eq_true rfl) rfl rfl) ?_
      rintro _ w_23 ⟨rfl, hS30⟩
      have hS30 : ST w0 [] _ [⟨some ⟨b, 0, none⟩, 83, [.int .i64 0, .int .i64 0, .int .i64 0, .int .i64 0, .int .i64 0], 5⟩, ⟨some ⟨b1, 0, none⟩, 83, [.int .i64 A, .int .i64 B4, .int .i64 C, .int .i64 D, .int .i64 Exp], 5⟩, ⟨B5, 83, [.int .i64 r_4.Num.A, .int .i64 r_4.Num.B, .int .i64 r_4.Num.C, .int .i64 r_4.Num.D, .int .i64 r_4.Exp], 5⟩, ⟨some ⟨b3, 0, none⟩, 83, [.int .i64 r_6.Num.A, .int .i64 r_6.Num.B, .int .i64 r_6.Num.C, .int .i64 r_6.Num.D, .int .i64 r_6.Exp], 5⟩] [⟨B, [.int .i64 p.Rows, .int .i64 p.Cols, .slice B1 p.Cells.length c]⟩, ⟨B1, (p.Cells.flatMap enc_Dyadic)⟩, ⟨B2, [.int .i64 p1.Rows, .int .i64 p1.Cols, .slice B3 p1.Cells.length c1]⟩, ⟨B3, (p1.Cells.flatMap enc_Dyadic)⟩] := hS30
      refine sq 7 rfl rfl (Y_assign (v := .bool false) rfl rfl) ?_
      refine rw_nil ?_
      refine cw_ret ?_
      obtain rfl := some_inj hF2
      obtain rfl := some_inj hL1
      obtain ⟨rfl, rfl⟩ := pr2 (some_inj hF1)
      exact ret2 Try.results145 (v1 := .agg #[.int .i64 0, .int .i64 0, .int .i64 0, .int .i64 0, .int .i64 0]) (resAt_cellA (B := some ⟨b, 0, none⟩) (i := 0) (cs := [.int .i64 0, .int .i64 0, .int .i64 0, .int .i64 0, .int .i64 0]) (vs := [.int .i64 0, .int .i64 0, .int .i64 0, .int .i64 0, .int .i64 0]) (hf1.get 6 4 rfl) k_ag_83 k_sz_83_5 (hS30.cf (i := 0) rfl) rfl rfl) (v2 := .bool false) (resAt_tmp rfl) ⟨rfl, (ST.subR (R' := []) (hS30.sel [] rfl rfl) (fun _ h => by cases h))⟩
    · skip
      have hF3 := cf' hb hb1
      refine cw_skip ?_
      refine cw_region ?_
      refine sq 45 rfl rfl (Y_loadA (B := some ⟨b3, 0, none⟩) (i := 0) (cs := [.int .i64 r_6.Num.A, .int .i64 r_6.Num.B, .int .i64 r_6.Num.C, .int .i64 r_6.Num.D, .int .i64 r_6.Exp]) (vs := [.int .i64 r_6.Num.A, .int .i64 r_6.Num.B, .int .i64 r_6.Num.C, .int .i64 r_6.Num.D, .int .i64 r_6.Exp]) k_ag_83 k_sz_83_5 rfl rfl (hS29.cf (i := 3) rfl) rfl rfl) ?_
      refine ss0 rfl rfl (Ys_store (i := 1) (s := 5) (B := some ⟨b1, 0, none⟩) (T' := 83) (v := .agg #[.int .i64 r_6.Num.A, .int .i64 r_6.Num.B, .int .i64 r_6.Num.C, .int .i64 r_6.Num.D, .int .i64 r_6.Exp]) (vs := [.int .i64 r_6.Num.A, .int .i64 r_6.Num.B, .int .i64 r_6.Num.C, .int .i64 r_6.Num.D, .int .i64 r_6.Exp]) (k := 0) (cs' := [.int .i64 r_6.Num.A, .int .i64 r_6.Num.B, .int .i64 r_6.Num.C, .int .i64 r_6.Num.D, .int .i64 r_6.Exp]) hS29 k_sz_83_5 rfl (hf1.get 8 5 rfl) rfl rfl rfl rfl rfl (Nat.le_of_ble_eq_true rfl) rfl rfl) ?_
      rintro _ w_24 ⟨rfl, hS31⟩
      have hS31 : ST w0 [] _ [⟨some ⟨b, 0, none⟩, 83, [.int .i64 0, .int .i64 0, .int .i64 0, .int .i64 0, .int .i64 0], 5⟩, ⟨some ⟨b1, 0, none⟩, 83, [.int .i64 r_6.Num.A, .int .i64 r_6.Num.B, .int .i64 r_6.Num.C, .int .i64 r_6.Num.D, .int .i64 r_6.Exp], 5⟩, ⟨B5, 83, [.int .i64 r_4.Num.A, .int .i64 r_4.Num.B, .int .i64 r_4.Num.C, .int .i64 r_4.Num.D, .int .i64 r_4.Exp], 5⟩, ⟨some ⟨b3, 0, none⟩, 83, [.int .i64 r_6.Num.A, .int .i64 r_6.Num.B, .int .i64 r_6.Num.C, .int .i64 r_6.Num.D, .int .i64 r_6.Exp], 5⟩] [⟨B, [.int .i64 p.Rows, .int .i64 p.Cols, .slice B1 p.Cells.length c]⟩, ⟨B1, (p.Cells.flatMap enc_Dyadic)⟩, ⟨B2, [.int .i64 p1.Rows, .int .i64 p1.Cols, .slice B3 p1.Cells.length c1]⟩, ⟨B3, (p1.Cells.flatMap enc_Dyadic)⟩] := hS31
      refine rw_nil ?_
      refine cw_region ?_
      refine sq 46 rfl rfl (Y_add (k := .i64) (a := (i1 : Int)) (b := 1) rfl (hf1.get 17 9 rfl) rfl) ?_
      refine sq 17 rfl rfl (Y_move (v := .int .i64 (IntKind.i64.wrap ((i1 : Int) + 1))) rfl rfl) ?_
      refine rw_nil ?_
      obtain rfl := some_inj hF3
      exact ⟨k_1, Nat.lt_succ_self _, i1 + 1, r_6.Num.A, r_6.Num.B, r_6.Num.C, r_6.Num.D, r_6.Exp, (FF.cons (hf1.get 0 0 rfl) (FF.cons (hf1.get 1 1 rfl) (FF.cons (hf1.get 2 2 rfl) (FF.cons (hf1.get 3 3 rfl) (FF.cons (hf1.get 6 4 rfl) (FF.cons (hf1.get 8 5 rfl) (FF.cons (hf1.get 16 8 rfl) (FF.cons (congrArg (Value.int .i64) (wr_succ hlt1 hN)) FF.nil)))))))), (hS31.sel [0, 1] rfl rfl), (by omega), hL1⟩
  · skip
    obtain rfl : k_ = 0 := by have h := of_decide_eq_false hlt; omega
    refine cw_exit rfl ?_
    obtain rfl := some_inj hL
    refine cw_seq ?_
    refine cw_region ?_
    refine sq 47 rfl rfl (Y_loadA (B := some ⟨b1, 0, none⟩) (i := 0) (cs := [.int .i64 A, .int .i64 B4, .int .i64 C, .int .i64 D, .int .i64 Exp]) (vs := [.int .i64 A, .int .i64 B4, .int .i64 C, .int .i64 D, .int .i64 Exp]) k_ag_83 k_sz_83_5 rfl (hf.get 8 5 rfl) (hS4.cf (i := 1) rfl) rfl rfl) ?_
    refine ss0 rfl rfl (Ys_store (i := 0) (s := 5) (B := some ⟨b, 0, none⟩) (T' := 83) (v := .agg #[.int .i64 A, .int .i64 B4, .int .i64 C, .int .i64 D, .int .i64 Exp]) (vs := [.int .i64 A, .int .i64 B4, .int .i64 C, .int .i64 D, .int .i64 Exp]) (k := 0) (cs' := [.int .i64 A, .int .i64 B4, .int .i64 C, .int .i64 D, .int .i64 Exp]) hS4 k_sz_83_5 rfl (hf.get 6 4 rfl) rfl rfl rfl rfl rfl (Nat.le_of_ble_eq_true rfl) rfl rfl) ?_
    rintro _ w_25 ⟨rfl, hS32⟩
    have hS32 : ST w0 [] _ [⟨some ⟨b, 0, none⟩, 83, [.int .i64 A, .int .i64 B4, .int .i64 C, .int .i64 D, .int .i64 Exp], 5⟩, ⟨some ⟨b1, 0, none⟩, 83, [.int .i64 A, .int .i64 B4, .int .i64 C, .int .i64 D, .int .i64 Exp], 5⟩] [⟨B, [.int .i64 p.Rows, .int .i64 p.Cols, .slice B1 p.Cells.length c]⟩, ⟨B1, (p.Cells.flatMap enc_Dyadic)⟩, ⟨B2, [.int .i64 p1.Rows, .int .i64 p1.Cols, .slice B3 p1.Cells.length c1]⟩, ⟨B3, (p1.Cells.flatMap enc_Dyadic)⟩] := hS32
    refine sq 7 rfl rfl (Y_assign (v := .bool true) rfl rfl) ?_
    refine rw_nil ?_
    refine cw_ret ?_
    obtain ⟨rfl, rfl⟩ := pr2 (some_inj hF1)
    exact ret2 Try.results145 (v1 := .agg #[.int .i64 A, .int .i64 B4, .int .i64 C, .int .i64 D, .int .i64 Exp]) (resAt_cellA (B := some ⟨b, 0, none⟩) (i := 0) (cs := [.int .i64 A, .int .i64 B4, .int .i64 C, .int .i64 D, .int .i64 Exp]) (vs := [.int .i64 A, .int .i64 B4, .int .i64 C, .int .i64 D, .int .i64 Exp]) (hf.get 6 4 rfl) k_ag_83 k_sz_83_5 (hS32.cf (i := 0) rfl) rfl rfl) (v2 := .bool true) (resAt_tmp rfl) ⟨rfl, (ST.subR (R' := []) (hS32.sel [] rfl rfl) (fun _ h => by cases h))⟩

theorem c_impl_MulMatrix (a : TMatrix) (b : TMatrix) (B : Option Addr) (c n : Nat) (B1 : Option Addr) (c1 n1 : Nat) (w0 : World) (hn : a.Cells.length = n) (hn1 : b.Cells.length = n1) (hS : ST w0 [] w0 [] [⟨B, (a.Cells.flatMap enc_Dyadic)⟩, ⟨B1, (b.Cells.flatMap enc_Dyadic)⟩]) {r_ : TMatrix} {r_1 : Bool} (hF : F_impl_MulMatrix a b = some (r_, r_1)) :
    CV Try.prog 75 #[.agg #[.int .i64 a.Rows, .int .i64 a.Cols, .slice B n c], .agg #[.int .i64 b.Rows, .int .i64 b.Cols, .slice B1 n1 c1]] w0 (fun v w' => ∃ (B2 : Option Addr) (c2 : Nat), v = .tuple #[.agg #[.int .i64 r_.Rows, .int .i64 r_.Cols, .slice B2 r_.Cells.length c2], .bool r_1] ∧ ST w0 [] w' [⟨B2, 83, (r_.Cells.flatMap enc_Dyadic), c2 * 5⟩] []) := by
  subst hn
  subst hn1
  unfold F_impl_MulMatrix at hF
  refine cv_of_cw 30 Try.func75 rfl Try.ntmps75 rfl ?_
  refine cw_seq ?_
  refine cw_region ?_
  refine ss 2 rfl rfl (Ys_box (T := 26) (v := .agg #[.int .i64 a.Rows, .int .i64 a.Cols, .slice B a.Cells.length c]) (cs := [.int .i64 a.Rows, .int .i64 a.Cols, .slice B a.Cells.length c]) (m := 3) hS rfl rfl rfl rfl) ?_
  rintro _ w_ ⟨b1, rfl, hS1⟩
  refine ss 3 rfl rfl (Ys_box (T := 26) (v := .agg #[.int .i64 b.Rows, .int .i64 b.Cols, .slice B1 b.Cells.length c1]) (cs := [.int .i64 b.Rows, .int .i64 b.Cols, .slice B1 b.Cells.length c1]) (m := 3) hS1 rfl rfl rfl rfl) ?_
  rintro _ w_1 ⟨b2, rfl, hS2⟩
  have hS2 : ST w0 [] _ [⟨some ⟨b1, 0, none⟩, 26, [.int .i64 a.Rows, .int .i64 a.Cols, .slice B a.Cells.length c], 3⟩, ⟨some ⟨b2, 0, none⟩, 26, [.int .i64 b.Rows, .int .i64 b.Cols, .slice B1 b.Cells.length c1], 3⟩] [⟨B, (a.Cells.flatMap enc_Dyadic)⟩, ⟨B1, (b.Cells.flatMap enc_Dyadic)⟩] := hS2
  refine ss 4 rfl rfl (Ys_alloc (T := 26) (cs := [.int .i64 0, .int .i64 0, .slice none 0 0]) (m := 3) hS2 k_zero_26 rfl rfl rfl) ?_
  rintro _ w_2 ⟨b3, rfl, hS3⟩
  have hS3 : ST w0 [] _ [⟨some ⟨b1, 0, none⟩, 26, [.int .i64 a.Rows, .int .i64 a.Cols, .slice B a.Cells.length c], 3⟩, ⟨some ⟨b2, 0, none⟩, 26, [.int .i64 b.Rows, .int .i64 b.Cols, .slice B1 b.Cells.length c1], 3⟩, ⟨some ⟨b3, 0, none⟩, 26, [.int .i64 0, .int .i64 0, .slice none 0 0], 3⟩] [⟨B, (a.Cells.flatMap enc_Dyadic)⟩, ⟨B1, (b.Cells.flatMap enc_Dyadic)⟩] := hS3
  refine sq 5 rfl rfl (Y_assign (v := .bool false) rfl rfl) ?_
  refine rw_nil ?_
  refine cw_seq ?_
  refine cw_seq ?_
  refine cw_region ?_
  refine sq 6 rfl rfl (Y_loadA (B := some ⟨b1, 0, none⟩) (i := 0) (cs := [.int .i64 a.Rows, .int .i64 a.Cols, .slice B a.Cells.length c]) (vs := [.int .i64 a.Rows, .int .i64 a.Cols, .slice B a.Cells.length c]) k_ag_26 k_sz_26_3 rfl rfl (hS3.cf (i := 0) rfl) rfl rfl) ?_
  obtain ⟨r_2, hc, hF⟩ := bind_inv hF
  refine sc 7 rfl rfl (Yc_func (g := 99) (vs := [.agg #[.int .i64 a.Rows, .int .i64 a.Cols, .slice B a.Cells.length c]]) k_call_99 rfl (mc rfl mn) (c_impl_IsValidMatrix a B c a.Cells.length _ rfl (hS3.inn0 [(true, 0)] rfl) hc)) ?_
  rintro _ w_3 ⟨rfl, hd⟩
  have hS4 := hS3.out00 hd
  have hS4 : ST w0 [] _ [⟨some ⟨b1, 0, none⟩, 26, [.int .i64 a.Rows, .int .i64 a.Cols, .slice B a.Cells.length c], 3⟩, ⟨some ⟨b2, 0, none⟩, 26, [.int .i64 b.Rows, .int .i64 b.Cols, .slice B1 b.Cells.length c1], 3⟩, ⟨some ⟨b3, 0, none⟩, 26, [.int .i64 0, .int .i64 0, .slice none 0 0], 3⟩] [⟨B, (a.Cells.flatMap enc_Dyadic)⟩, ⟨B1, (b.Cells.flatMap enc_Dyadic)⟩] := hS4
  refine sq 8 rfl rfl (Y_not (p := r_2) rfl rfl) ?_
  refine sq 9 rfl rfl (Y_move (v := .bool (!r_2)) rfl rfl) ?_
  refine sgq 10 (B := (!(!r_2))) (v := .agg #[.int .i64 b.Rows, .int .i64 b.Cols, .slice B1 b.Cells.length c1]) rfl rfl (wt_f (gd_of (t := 9) (by kernel_rfl) rfl)) (fun hg => (Y_loadA (B := some ⟨b2, 0, none⟩) (i := 0) (cs := [.int .i64 b.Rows, .int .i64 b.Cols, .slice B1 b.Cells.length c1]) (vs := [.int .i64 b.Rows, .int .i64 b.Cols, .slice B1 b.Cells.length c1]) k_ag_26 k_sz_26_3 rfl rfl (hS4.cf (i := 1) rfl) rfl rfl)) ?_
  obtain ⟨r_3, hc1, hF⟩ := bind_inv hF
  refine sgc 11 (B := (!(!r_2))) (v := .bool r_3) (F := hS4.fn) rfl rfl (wt_f (gd_of (t := 9) (by kernel_rfl) rfl)) hS4 (fun hg1 => (Yc_func (g := 99) (vs := [.agg #[.int .i64 b.Rows, .int .i64 b.Cols, .slice B1 b.Cells.length c1]]) k_call_99 rfl (mc (gv_of (B := (!(!r_2))) (v := .agg #[.int .i64 b.Rows, .int .i64 b.Cols, .slice B1 b.Cells.length c1]) hg1) mn) (CV.mono (c_impl_IsValidMatrix b B1 c1 b.Cells.length _ rfl (hS4.inn0 [(true, 1)] rfl) (gb_inv hc1 hg1)) (by rintro _ _ ⟨rfl, h⟩; exact ⟨rfl, hS4.out00 h⟩)))) ?_
  rintro w_4 hS5
  have hS5 : ST _ _ w_4 _ _ := hS5
  refine sgq 12 (B := (!(!r_2))) (v := .bool (!r_3)) rfl rfl (wt_f (gd_of (t := 9) (by kernel_rfl) rfl)) (fun hg2 => (Y_not (p := r_3) rfl (gv_of (B := (!(!r_2))) (v := .bool r_3) hg2))) ?_
  refine sq 13 rfl rfl (Y_or (b := (!r_2)) (z := (!r_3)) rfl rfl rfl rfl) ?_
  refine sq 14 rfl rfl (Y_move (v := .bool ((!r_2) || (!r_3))) rfl rfl) ?_
  refine sgq 15 (B := (!((!r_2) || (!r_3)))) (v := pt (some ⟨b1, 0, none⟩) 1) rfl rfl (wt_f (gd_of (t := 14) (by kernel_rfl) rfl)) (fun hg3 => (Y_fieldAddr (B := some ⟨b1, 0, none⟩) (i := 0) (s := 0) k_fd_26_1_1_3 k_sz_3_1 rfl rfl)) ?_
  refine sgq 16 (B := (!((!r_2) || (!r_3)))) (v := .int .i64 a.Cols) rfl rfl (wt_f (gd_of (t := 14) (by kernel_rfl) rfl)) (fun hg4 => (Y_load1 (B := some ⟨b1, 0, none⟩) (i := 1) (cs := [.int .i64 a.Rows, .int .i64 a.Cols, .slice B a.Cells.length c]) (v := .int .i64 a.Cols) k_sc_3 rfl (gv_of (B := (!((!r_2) || (!r_3)))) (v := pt (some ⟨b1, 0, none⟩) 1) hg4) (hS5.cf (i := 0) rfl) rfl)) ?_
  refine sgq 17 (B := (!((!r_2) || (!r_3)))) (v := pt (some ⟨b2, 0, none⟩) 0) rfl rfl (wt_f (gd_of (t := 14) (by kernel_rfl) rfl)) (fun hg5 => (Y_fieldAddr (B := some ⟨b2, 0, none⟩) (i := 0) (s := 0) k_fd_26_0_0_3 k_sz_3_1 rfl rfl)) ?_
  refine sgq 18 (B := (!((!r_2) || (!r_3)))) (v := .int .i64 b.Rows) rfl rfl (wt_f (gd_of (t := 14) (by kernel_rfl) rfl)) (fun hg6 => (Y_load1 (B := some ⟨b2, 0, none⟩) (i := 0) (cs := [.int .i64 b.Rows, .int .i64 b.Cols, .slice B1 b.Cells.length c1]) (v := .int .i64 b.Rows) k_sc_3 rfl (gv_of (B := (!((!r_2) || (!r_3)))) (v := pt (some ⟨b2, 0, none⟩) 0) hg6) (hS5.cf (i := 1) rfl) rfl)) ?_
  refine sgq 19 (B := (!((!r_2) || (!r_3)))) (v := .bool (a.Cols != b.Rows)) rfl rfl (wt_f (gd_of (t := 14) (by kernel_rfl) rfl)) (fun hg7 => (Y_ne (k := .i64) (a := a.Cols) (b := b.Rows) rfl (gv_of (B := (!((!r_2) || (!r_3)))) (v := .int .i64 a.Cols) hg7) (gv_of (B := (!((!r_2) || (!r_3)))) (v := .int .i64 b.Rows) hg7))) ?_
  refine sq 20 rfl rfl (Y_or (b := ((!r_2) || (!r_3))) (z := (a.Cols != b.Rows)) rfl rfl rfl rfl) ?_
  refine rw_nil ?_
  refine cw_cond (b := (((!r_2) || (!r_3)) || (a.Cols != b.Rows))) rfl (fun hb => ?_) (fun hb => ?_)
  · skip
    have hF1 := ct hF hb
    refine cw_seq ?_
    refine cw_region ?_
    refine sq 21 rfl rfl (Y_buildS (zs := [.int .i64 0, .int .i64 0, .slice none 0 0]) (vs := []) (cs := [.int .i64 0, .int .i64 0, .slice none 0 0]) k_pl_26 k_zero_26 rfl mpn rfl) ?_
    refine ss0 rfl rfl (Ys_store (i := 2) (s := 3) (B := some ⟨b3, 0, none⟩) (T' := 26) (v := .agg #[.int .i64 0, .int .i64 0, .slice none 0 0]) (vs := [.int .i64 0, .int .i64 0, .slice none 0 0]) (k := 0) (cs' := [.int .i64 0, .int .i64 0, .slice none 0 0]) hS5 k_sz_26_3 rfl rfl rfl rfl rfl rfl rfl (Nat.le_of_ble_eq_true rfl) rfl rfl) ?_
    rintro _ w_5 ⟨rfl, hS6⟩
    have hS6 : ST w0 [] _ [⟨some ⟨b1, 0, none⟩, 26, [.int .i64 a.Rows, .int .i64 a.Cols, .slice B a.Cells.length c], 3⟩, ⟨some ⟨b2, 0, none⟩, 26, [.int .i64 b.Rows, .int .i64 b.Cols, .slice B1 b.Cells.length c1], 3⟩, ⟨some ⟨b3, 0, none⟩, 26, [.int .i64 0, .int .i64 0, .slice none 0 0], 3⟩] [⟨B, (a.Cells.flatMap enc_Dyadic)⟩, ⟨B1, (b.Cells.flatMap enc_Dyadic)⟩] := hS6
    refine sq 5 rfl rfl (Y_assign (v := .bool false) rfl rfl) ?_
    refine rw_nil ?_
    refine cw_ret ?_
    have hS7 := hS6.addNil 83
    obtain ⟨rfl, rfl⟩ := pr2 (some_inj hF1)
    exact ret2 Try.results75 (v1 := .agg #[.int .i64 0, .int .i64 0, .slice none 0 0]) (resAt_cellA (B := some ⟨b3, 0, none⟩) (i := 0) (cs := [.int .i64 0, .int .i64 0, .slice none 0 0]) (vs := [.int .i64 0, .int .i64 0, .slice none 0 0]) rfl k_ag_26 k_sz_26_3 (hS7.cf (i := 2) rfl) rfl rfl) (v2 := .bool false) (resAt_tmp rfl) ⟨none, 0, rfl, (ST.subR (R' := []) (hS7.sel [3] rfl rfl) (fun _ h => by cases h))⟩
  · skip
    have hF2 := cf' hF hb
    refine cw_skip ?_
    refine cw_seq ?_
    refine cw_region ?_
    refine sq 22 rfl rfl (Y_fieldAddr (B := some ⟨b1, 0, none⟩) (i := 0) (s := 0) k_fd_26_0_0_3 k_sz_3_1 rfl rfl) ?_
    refine sq 23 rfl rfl (Y_load1 (B := some ⟨b1, 0, none⟩) (i := 0) (cs := [.int .i64 a.Rows, .int .i64 a.Cols, .slice B a.Cells.length c]) (v := .int .i64 a.Rows) k_sc_3 rfl rfl (hS5.cf (i := 0) rfl) rfl) ?_
    refine sq 24 rfl rfl (Y_fieldAddr (B := some ⟨b2, 0, none⟩) (i := 0) (s := 0) k_fd_26_1_1_3 k_sz_3_1 rfl rfl) ?_
    refine sq 25 rfl rfl (Y_load1 (B := some ⟨b2, 0, none⟩) (i := 1) (cs := [.int .i64 b.Rows, .int .i64 b.Cols, .slice B1 b.Cells.length c1]) (v := .int .i64 b.Cols) k_sc_3 rfl rfl (hS5.cf (i := 1) rfl) rfl) ?_
    refine sq 26 rfl rfl (Y_makeFunc (cs := [pt (some ⟨b1, 0, none⟩) 0, pt (some ⟨b2, 0, none⟩) 0]) rfl rfl (mc rfl (mc rfl mn))) ?_
    obtain ⟨⟨r_4, r_5⟩, hc2, hF2⟩ := bind_inv hF2
    refine sc 27 rfl rfl (Yc_func (g := 140) (vs := [.int .i64 a.Rows, .int .i64 b.Cols, .func (.func 145) #[] #[pt (some ⟨b1, 0, none⟩) 0, pt (some ⟨b2, 0, none⟩) 0]]) k_call_140 rfl (mc rfl (mc rfl (mc rfl mn))) (c_impl_matrixOf a.Rows b.Cols (fun x_0 x_1 => F_impl_MulMatrix_1 x_0 x_1 a b) 145 (#[pt (some ⟨b1, 0, none⟩) 0, pt (some ⟨b2, 0, none⟩) 0]) [⟨some ⟨b1, 0, none⟩, [.int .i64 a.Rows, .int .i64 a.Cols, .slice B a.Cells.length c]⟩, ⟨B, (a.Cells.flatMap enc_Dyadic)⟩, ⟨some ⟨b2, 0, none⟩, [.int .i64 b.Rows, .int .i64 b.Cols, .slice B1 b.Cells.length c1]⟩, ⟨B1, (b.Cells.flatMap enc_Dyadic)⟩] _ k_call_145 (fun w hw x_0 x_1 y_0 y_1 h_ => c_impl_MulMatrix_1 x_0 x_1 a b (some ⟨b1, 0, none⟩) B c a.Cells.length (some ⟨b2, 0, none⟩) B1 c1 b.Cells.length w rfl rfl hw h_) (hS5.inn0 [(false, 0), (true, 0), (false, 1), (true, 1)] rfl) hc2)) ?_
    rintro _ w_6 ⟨B3, c3, rfl, hd1⟩
    have hS8 := hS5.out0 hd1
    have hS8 : ST w0 [] _ [⟨some ⟨b1, 0, none⟩, 26, [.int .i64 a.Rows, .int .i64 a.Cols, .slice B a.Cells.length c], 3⟩, ⟨some ⟨b2, 0, none⟩, 26, [.int .i64 b.Rows, .int .i64 b.Cols, .slice B1 b.Cells.length c1], 3⟩, ⟨some ⟨b3, 0, none⟩, 26, [.int .i64 0, .int .i64 0, .slice none 0 0], 3⟩, ⟨B3, 83, (r_4.Cells.flatMap enc_Dyadic), c3 * 5⟩] [⟨B, (a.Cells.flatMap enc_Dyadic)⟩, ⟨B1, (b.Cells.flatMap enc_Dyadic)⟩] := hS8
    refine sq 28 rfl rfl (Y_extract (v := .agg #[.int .i64 r_4.Rows, .int .i64 r_4.Cols, .slice B3 r_4.Cells.length c3]) rfl rfl rfl) ?_
    refine sq 29 rfl rfl (Y_extract (v := .bool r_5) rfl rfl rfl) ?_
    refine ss0 rfl rfl (Ys_store (i := 2) (s := 3) (B := some ⟨b3, 0, none⟩) (T' := 26) (v := .agg #[.int .i64 r_4.Rows, .int .i64 r_4.Cols, .slice B3 r_4.Cells.length c3]) (vs := [.int .i64 r_4.Rows, .int .i64 r_4.Cols, .slice B3 r_4.Cells.length c3]) (k := 0) (cs' := [.int .i64 r_4.Rows, .int .i64 r_4.Cols, .slice B3 r_4.Cells.length c3]) hS8 k_sz_26_3 rfl rfl rfl rfl rfl rfl rfl (Nat.le_of_ble_eq_true rfl) rfl rfl) ?_
    rintro _ w_7 ⟨rfl, hS9⟩
    have hS9 : ST w0 [] _ [⟨some ⟨b1, 0, none⟩, 26, [.int .i64 a.Rows, .int .i64 a.Cols, .slice B a.Cells.length c], 3⟩, ⟨some ⟨b2, 0, none⟩, 26, [.int .i64 b.Rows, .int .i64 b.Cols, .slice B1 b.Cells.length c1], 3⟩, ⟨some ⟨b3, 0, none⟩, 26, [.int .i64 r_4.Rows, .int .i64 r_4.Cols, .slice B3 r_4.Cells.length c3], 3⟩, ⟨B3, 83, (r_4.Cells.flatMap enc_Dyadic), c3 * 5⟩] [⟨B, (a.Cells.flatMap enc_Dyadic)⟩, ⟨B1, (b.Cells.flatMap enc_Dyadic)⟩] := hS9
    refine sq 5 rfl rfl (Y_assign (v := .bool r_5) rfl rfl) ?_
    refine rw_nil ?_
    refine cw_ret ?_
    obtain ⟨rfl, rfl⟩ := pr2 (some_inj hF2)
    exact ret2 Try.results75 (v1 := .agg #[.int .i64 r_4.Rows, .int .i64 r_4.Cols, .slice B3 r_4.Cells.length c3]) (resAt_cellA (B := some ⟨b3, 0, none⟩) (i := 0) (cs := [.int .i64 r_4.Rows, .int .i64 r_4.Cols, .slice B3 r_4.Cells.length c3]) (vs := [.int .i64 r_4.Rows, .int .i64 r_4.Cols, .slice B3 r_4.Cells.length c3]) rfl k_ag_26 k_sz_26_3 (hS9.cf (i := 2) rfl) rfl rfl) (v2 := .bool r_5) (resAt_tmp rfl) ⟨B3, c3, rfl, (ST.subR (R' := []) (hS9.sel [3] rfl rfl) (fun _ h => by cases h))⟩

theorem c_impl_bitOf (n : Int) (state : Int) (q : Int)  (w0 : World)  (hS : ST w0 [] w0 [] []) {r_ : Int} (hF : F_impl_bitOf n state q = some r_) :
    CV Try.prog 115 #[.int .i64 n, .int .i64 state, .int .i64 q] w0 (fun v w' => v = .int .i64 r_ ∧ ST w0 [] w' [] []) := by
  unfold F_impl_bitOf at hF
  refine cv_of_cw 14 Try.func115 rfl Try.ntmps115 rfl ?_
  refine cw_seq ?_
  refine cw_region ?_
  refine sq 6 rfl rfl (Y_assign (v := .int .i64 0) rfl rfl) ?_
  refine rw_nil ?_
  refine cw_seq ?_
  refine cw_region ?_
  refine sq 7 rfl rfl (Y_move (v := .int .i64 state) rfl rfl) ?_
  refine sq 8 rfl rfl (Y_move (v := .int .i64 n) rfl rfl) ?_
  refine sq 9 rfl rfl (Y_sub (k := .i64) (a := n) (b := 1) rfl rfl rfl) ?_
  refine sq 10 rfl rfl (Y_move (v := .int .i64 q) rfl rfl) ?_
  refine sq 11 rfl rfl (Y_sub (k := .i64) (a := (IntKind.i64.wrap (n - 1))) (b := q) rfl rfl rfl) ?_
  obtain ⟨hsh, hF⟩ := chk_inv hF
  refine sq 12 rfl rfl (Y_shr (k := .i64) (a := state) (k' := .i64) (b := (IntKind.i64.wrap ((IntKind.i64.wrap (n - 1)) - q))) rfl rfl rfl hsh) ?_
  refine sq 13 rfl rfl (Y_band (k := .i64) (a := (shrK .i64 state (IntKind.i64.wrap ((IntKind.i64.wrap (n - 1)) - q)))) (b := 1) rfl rfl rfl) ?_
  refine sq 6 rfl rfl (Y_assign (v := .int .i64 (bits .and .i64 (shrK .i64 state (IntKind.i64.wrap ((IntKind.i64.wrap (n - 1)) - q))) 1)) rfl rfl) ?_
  refine rw_nil ?_
  refine cw_ret ?_
  obtain rfl := some_inj hF
  exact ret1 Try.results115 (v1 := .int .i64 (bits .and .i64 (shrK .i64 state (IntKind.i64.wrap ((IntKind.i64.wrap (n - 1)) - q))) 1)) (resAt_tmp rfl) ⟨rfl, (ST.subR (R' := []) (hS.sel [] rfl rfl) (fun _ h => by cases h))⟩

theorem c_impl_MulOmega (x : TRing) (k_ : Int)  (w0 : World)  (hS : ST w0 [] w0 [] []) {r_ : TRing} {r_1 : Bool} (hF : F_impl_MulOmega x k_ = some (r_, r_1)) :
    CV Try.prog 242 #[.agg #[.int .i64 x.A, .int .i64 x.B, .int .i64 x.C, .int .i64 x.D], .int .i64 k_] w0 (fun v w' => v = .tuple #[.agg #[.int .i64 r_.A, .int .i64 r_.B, .int .i64 r_.C, .int .i64 r_.D], .bool r_1] ∧ ST w0 [] w' [] []) := by
  unfold F_impl_MulOmega at hF
  refine cv_of_cw 33 Try.func242 rfl Try.ntmps242 rfl ?_
  refine cw_seq ?_
  refine cw_region ?_
  refine ss 2 rfl rfl (Ys_box (T := 81) (v := .agg #[.int .i64 x.A, .int .i64 x.B, .int .i64 x.C, .int .i64 x.D]) (cs := [.int .i64 x.A, .int .i64 x.B, .int .i64 x.C, .int .i64 x.D]) (m := 4) hS rfl rfl rfl rfl) ?_
  rintro _ w_ ⟨b, rfl, hS1⟩
  refine ss 4 rfl rfl (Ys_alloc (T := 81) (cs := [.int .i64 0, .int .i64 0, .int .i64 0, .int .i64 0]) (m := 4) hS1 k_zero_81 rfl rfl rfl) ?_
  rintro _ w_1 ⟨b1, rfl, hS2⟩
  have hS2 : ST w0 [] _ [⟨some ⟨b, 0, none⟩, 81, [.int .i64 x.A, .int .i64 x.B, .int .i64 x.C, .int .i64 x.D], 4⟩, ⟨some ⟨b1, 0, none⟩, 81, [.int .i64 0, .int .i64 0, .int .i64 0, .int .i64 0], 4⟩] [] := hS2
  refine sq 5 rfl rfl (Y_assign (v := .bool false) rfl rfl) ?_
  refine rw_nil ?_
  refine cw_seq ?_
  refine cw_seq ?_
  refine cw_region ?_
  refine sq 6 rfl rfl (Y_move (v := .int .i64 k_) rfl rfl) ?_
  obtain ⟨r_2, hc, hF⟩ := bind_inv hF
  refine sc 7 rfl rfl (Yc_func (g := 107) (vs := [.int .i64 k_, .int .i64 (-1000), .int .i64 1000]) k_call_107 rfl (mc rfl (mc rfl (mc rfl mn))) (c_impl_within k_ (-1000) 1000 _  (hS2.inn0 [] rfl) hc)) ?_
  rintro _ w_2 ⟨rfl, hd⟩
  have hS3 := hS2.out00 hd
  have hS3 : ST w0 [] _ [⟨some ⟨b, 0, none⟩, 81, [.int .i64 x.A, .int .i64 x.B, .int .i64 x.C, .int .i64 x.D], 4⟩, ⟨some ⟨b1, 0, none⟩, 81, [.int .i64 0, .int .i64 0, .int .i64 0, .int .i64 0], 4⟩] [] := hS3
  refine sq 8 rfl rfl (Y_not (p := r_2) rfl rfl) ?_
  refine sq 9 rfl rfl (Y_move (v := .bool (!r_2)) rfl rfl) ?_
  refine sgq 10 (B := (!(!r_2))) (v := .agg #[.int .i64 x.A, .int .i64 x.B, .int .i64 x.C, .int .i64 x.D]) rfl rfl (wt_f (gd_of (t := 9) (by kernel_rfl) rfl)) (fun hg => (Y_loadA (B := some ⟨b, 0, none⟩) (i := 0) (cs := [.int .i64 x.A, .int .i64 x.B, .int .i64 x.C, .int .i64 x.D]) (vs := [.int .i64 x.A, .int .i64 x.B, .int .i64 x.C, .int .i64 x.D]) k_ag_81 k_sz_81_4 rfl rfl (hS3.cf (i := 0) rfl) rfl rfl)) ?_
  obtain ⟨r_3, hc1, hF⟩ := bind_inv hF
  refine sgc 11 (B := (!(!r_2))) (v := .bool r_3) (F := hS3.fn) rfl rfl (wt_f (gd_of (t := 9) (by kernel_rfl) rfl)) hS3 (fun hg1 => (Yc_func (g := 239) (vs := [.agg #[.int .i64 x.A, .int .i64 x.B, .int .i64 x.C, .int .i64 x.D]]) k_call_239 rfl (mc (gv_of (B := (!(!r_2))) (v := .agg #[.int .i64 x.A, .int .i64 x.B, .int .i64 x.C, .int .i64 x.D]) hg1) mn) (CV.mono (c_impl_IsValidRing x _  (hS3.inn0 [] rfl) (gb_inv hc1 hg1)) (by rintro _ _ ⟨rfl, h⟩; exact ⟨rfl, hS3.out00 h⟩)))) ?_
  rintro w_3 hS4
  have hS4 : ST _ _ w_3 _ _ := hS4
  refine sgq 12 (B := (!(!r_2))) (v := .bool (!r_3)) rfl rfl (wt_f (gd_of (t := 9) (by kernel_rfl) rfl)) (fun hg2 => (Y_not (p := r_3) rfl (gv_of (B := (!(!r_2))) (v := .bool r_3) hg2))) ?_
  refine sq 13 rfl rfl (Y_or (b := (!r_2)) (z := (!r_3)) rfl rfl rfl rfl) ?_
  refine rw_nil ?_
  refine cw_cond (b := ((!r_2) || (!r_3))) rfl (fun hb => ?_) (fun hb => ?_)
  · skip
    have hF1 := ct hF hb
    refine cw_seq ?_
    refine cw_region ?_
    refine sq 14 rfl rfl (Y_buildS (zs := [.int .i64 0, .int .i64 0, .int .i64 0, .int .i64 0]) (vs := []) (cs := [.int .i64 0, .int .i64 0, .int .i64 0, .int .i64 0]) k_pl_81 k_zero_81 rfl mpn rfl) ?_
    refine ss0 rfl rfl (Ys_store (i := 1) (s := 4) (B := some ⟨b1, 0, none⟩) (T' := 81) (v := .agg #[.int .i64 0, .int .i64 0, .int .i64 0, .int .i64 0]) (vs := [.int .i64 0, .int .i64 0, .int .i64 0, .int .i64 0]) (k := 0) (cs' := [.int .i64 0, .int .i64 0, .int .i64 0, .int .i64 0]) hS4 k_sz_81_4 rfl rfl rfl rfl rfl rfl rfl (Nat.le_of_ble_eq_true rfl) rfl rfl) ?_
    rintro _ w_4 ⟨rfl, hS5⟩
    have hS5 : ST w0 [] _ [⟨some ⟨b, 0, none⟩, 81, [.int .i64 x.A, .int .i64 x.B, .int .i64 x.C, .int .i64 x.D], 4⟩, ⟨some ⟨b1, 0, none⟩, 81, [.int .i64 0, .int .i64 0, .int .i64 0, .int .i64 0], 4⟩] [] := hS5
    refine sq 5 rfl rfl (Y_assign (v := .bool false) rfl rfl) ?_
    refine rw_nil ?_
    refine cw_ret ?_
    obtain ⟨rfl, rfl⟩ := pr2 (some_inj hF1)
    exact ret2 Try.results242 (v1 := .agg #[.int .i64 0, .int .i64 0, .int .i64 0, .int .i64 0]) (resAt_cellA (B := some ⟨b1, 0, none⟩) (i := 0) (cs := [.int .i64 0, .int .i64 0, .int .i64 0, .int .i64 0]) (vs := [.int .i64 0, .int .i64 0, .int .i64 0, .int .i64 0]) rfl k_ag_81 k_sz_81_4 (hS5.cf (i := 1) rfl) rfl rfl) (v2 := .bool false) (resAt_tmp rfl) ⟨rfl, (ST.subR (R' := []) (hS5.sel [] rfl rfl) (fun _ h => by cases h))⟩
  · skip
    have hF2 := cf' hF hb
    refine cw_skip ?_
    refine cw_seq ?_
    refine cw_seq ?_
    refine cw_region ?_
    refine sq 15 rfl rfl (Y_move (v := .int .i64 k_) rfl rfl) ?_
    refine sq 16 rfl rfl (Y_rem (k := .i64) (a := k_) (b := 8) rfl rfl rfl (by decide)) ?_
    refine sq 17 rfl rfl (Y_add (k := .i64) (a := (Int.tmod k_ 8)) (b := 8) rfl rfl rfl) ?_
    refine sq 18 rfl rfl (Y_rem (k := .i64) (a := (IntKind.i64.wrap ((Int.tmod k_ 8) + 8))) (b := 8) rfl rfl rfl (by decide)) ?_
    refine sq 19 rfl rfl (Y_move (v := .int .i64 0) rfl rfl) ?_
    refine rw_nil ?_
    obtain ⟨hN, hF2⟩ := chk_inv hF2
    obtain ⟨z, hz, hF3⟩ := bind_inv hF2
    refine cw_block ?_
    refine cw_loop (fun k f w => ∃ (i : Nat) (A : Int) (B : Int) (C : Int) (D : Int), FF f [(2, pt (some ⟨b, 0, none⟩) 0), (4, pt (some ⟨b1, 0, none⟩) 0), (18, .int .i64 (Int.tmod (IntKind.i64.wrap ((Int.tmod k_ 8) + 8)) 8)), (19, .int .i64 (i : Int))] ∧ ST w0 [] w [⟨some ⟨b, 0, none⟩, 81, [.int .i64 A, .int .i64 B, .int .i64 C, .int .i64 D], 4⟩, ⟨some ⟨b1, 0, none⟩, 81, [.int .i64 0, .int .i64 0, .int .i64 0, .int .i64 0], 4⟩] [] ∧ i + k = (Int.tmod (IntKind.i64.wrap ((Int.tmod k_ 8) + 8)) 8).toNat ∧ forN F_impl_MulOmega_l1 k i (A, B, C, D) = some z) ((Int.tmod (IntKind.i64.wrap ((Int.tmod k_ 8) + 8)) 8).toNat) ⟨0, x.A, x.B, x.C, x.D, (FF.cons rfl (FF.cons rfl (FF.cons rfl (FF.cons rfl FF.nil)))), (hS4.sel [0, 1] rfl rfl), Nat.zero_add _, hz⟩ ?_
    rintro k_1 f w ⟨i, A, B, C, D, hf, hS6, hik, hL⟩
    refine cw_seq ?_
    refine cw_region ?_
    refine sq 20 rfl rfl (Y_lt (k := .i64) (a := (i : Int)) (b := (Int.tmod (IntKind.i64.wrap ((Int.tmod k_ 8) + 8)) 8)) rfl (hf.get 19 3 rfl) (hf.get 18 2 rfl)) ?_
    refine rw_nil ?_
    refine cw_seq ?_
    refine cw_cond (b := (decide ((i : Int) < (Int.tmod (IntKind.i64.wrap ((Int.tmod k_ 8) + 8)) 8)))) rfl (fun hlt => ?_) (fun hlt => ?_)
    · skip
      have hlt1 : i < (Int.tmod (IntKind.i64.wrap ((Int.tmod k_ 8) + 8)) 8).toNat := by have h := of_decide_eq_true hlt; omega
      obtain ⟨k_2, rfl⟩ : ∃ k2, k_1 = k2 + 1 := ⟨k_1 - 1, by omega⟩
      obtain ⟨y, hb1, hL1⟩ := forN_go hL
      unfold F_impl_MulOmega_l1 at hb1
      refine cw_skip ?_
      refine cw_seq ?_
      refine cw_block ?_
      refine cw_region ?_
      refine sq 21 rfl rfl (Y_fieldAddr (B := some ⟨b, 0, none⟩) (i := 0) (s := 0) k_fd_81_3_3_3 k_sz_3_1 rfl (hf.get 2 0 rfl)) ?_
      refine sq 22 rfl rfl (Y_load1 (B := some ⟨b, 0, none⟩) (i := 3) (cs := [.int .i64 A, .int .i64 B, .int .i64 C, .int .i64 D]) (v := .int .i64 D) k_sc_3 rfl rfl (hS6.cf (i := 0) rfl) rfl) ?_
      refine sq 23 rfl rfl (Y_neg (k := .i64) (a := D) rfl rfl) ?_
      refine sq 24 rfl rfl (Y_fieldAddr (B := some ⟨b, 0, none⟩) (i := 0) (s := 0) k_fd_81_0_0_3 k_sz_3_1 rfl (hf.get 2 0 rfl)) ?_
      refine sq 25 rfl rfl (Y_load1 (B := some ⟨b, 0, none⟩) (i := 0) (cs := [.int .i64 A, .int .i64 B, .int .i64 C, .int .i64 D]) (v := .int .i64 A) k_sc_3 rfl rfl (hS6.cf (i := 0) rfl) rfl) ?_
      refine sq 26 rfl rfl (Y_fieldAddr (B := some ⟨b, 0, none⟩) (i := 0) (s := 0) k_fd_81_1_1_3 k_sz_3_1 rfl (hf.get 2 0 rfl)) ?_
      refine sq 27 rfl rfl (Y_load1 (B := some ⟨b, 0, none⟩) (i := 1) (cs := [.int .i64 A, .int .i64 B, .int .i64 C, .int .i64 D]) (v := .int .i64 B) k_sc_3 rfl rfl (hS6.cf (i := 0) rfl) rfl) ?_
      refine sq 28 rfl rfl (Y_fieldAddr (B := some ⟨b, 0, none⟩) (i := 0) (s := 0) k_fd_81_2_2_3 k_sz_3_1 rfl (hf.get 2 0 rfl)) ?_
      refine sq 29 rfl rfl (Y_load1 (B := some ⟨b, 0, none⟩) (i := 2) (cs := [.int .i64 A, .int .i64 B, .int .i64 C, .int .i64 D]) (v := .int .i64 C) k_sc_3 rfl rfl (hS6.cf (i := 0) rfl) rfl) ?_
      refine sq 30 rfl rfl (Y_buildS (zs := [.int .i64 0, .int .i64 0, .int .i64 0, .int .i64 0]) (vs := [(0, .int .i64 (IntKind.i64.wrap (-D))), (1, .int .i64 A), (2, .int .i64 B), (3, .int .i64 C)]) (cs := [.int .i64 (IntKind.i64.wrap (-D)), .int .i64 A, .int .i64 B, .int .i64 C]) k_pl_81 k_zero_81 rfl (mpc rfl (mpc rfl (mpc rfl (mpc rfl mpn)))) rfl) ?_
      refine ss0 rfl rfl (Ys_store (i := 0) (s := 4) (B := some ⟨b, 0, none⟩) (T' := 81) (v := .agg #[.int .i64 (IntKind.i64.wrap (-D)), .int .i64 A, .int .i64 B, .int .i64 C]) (vs := [.int .i64 (IntKind.i64.wrap (-D)), .int .i64 A, .int .i64 B, .int .i64 C]) (k := 0) (cs' := [.int .i64 (IntKind.i64.wrap (-D)), .int .i64 A, .int .i64 B, .int .i64 C]) hS6 k_sz_81_4 rfl (hf.get 2 0 rfl) rfl rfl rfl rfl rfl (Nat.le_of_ble_eq_true rfl) rfl rfl) ?_
      rintro _ w_5 ⟨rfl, hS7⟩
      have hS7 : ST w0 [] _ [⟨some ⟨b, 0, none⟩, 81, [.int .i64 (IntKind.i64.wrap (-D)), .int .i64 A, .int .i64 B, .int .i64 C], 4⟩, ⟨some ⟨b1, 0, none⟩, 81, [.int .i64 0, .int .i64 0, .int .i64 0, .int .i64 0], 4⟩] [] := hS7
      refine rw_nil ?_
      refine cw_region ?_
      refine sq 31 rfl rfl (Y_add (k := .i64) (a := (i : Int)) (b := 1) rfl (hf.get 19 3 rfl) rfl) ?_
      refine sq 19 rfl rfl (Y_move (v := .int .i64 (IntKind.i64.wrap ((i : Int) + 1))) rfl rfl) ?_
      refine rw_nil ?_
      obtain rfl := some_inj hb1
      exact ⟨k_2, Nat.lt_succ_self _, i + 1, (IntKind.i64.wrap (-D)), A, B, C, (FF.cons (hf.get 2 0 rfl) (FF.cons (hf.get 4 1 rfl) (FF.cons (hf.get 18 2 rfl) (FF.cons (congrArg (Value.int .i64) (wr_succ hlt1 hN)) FF.nil)))), (hS7.sel [0, 1] rfl rfl), (by omega), hL1⟩
    · skip
      obtain rfl : k_1 = 0 := by have h := of_decide_eq_false hlt; omega
      refine cw_exit rfl ?_
      obtain rfl := some_inj hL
      refine cw_seq ?_
      refine cw_region ?_
      refine sq 32 rfl rfl (Y_loadA (B := some ⟨b, 0, none⟩) (i := 0) (cs := [.int .i64 A, .int .i64 B, .int .i64 C, .int .i64 D]) (vs := [.int .i64 A, .int .i64 B, .int .i64 C, .int .i64 D]) k_ag_81 k_sz_81_4 rfl (hf.get 2 0 rfl) (hS6.cf (i := 0) rfl) rfl rfl) ?_
      refine ss0 rfl rfl (Ys_store (i := 1) (s := 4) (B := some ⟨b1, 0, none⟩) (T' := 81) (v := .agg #[.int .i64 A, .int .i64 B, .int .i64 C, .int .i64 D]) (vs := [.int .i64 A, .int .i64 B, .int .i64 C, .int .i64 D]) (k := 0) (cs' := [.int .i64 A, .int .i64 B, .int .i64 C, .int .i64 D]) hS6 k_sz_81_4 rfl (hf.get 4 1 rfl) rfl rfl rfl rfl rfl (Nat.le_of_ble_eq_true rfl) rfl rfl) ?_
      rintro _ w_6 ⟨rfl, hS8⟩
      have hS8 : ST w0 [] _ [⟨some ⟨b, 0, none⟩, 81, [.int .i64 A, .int .i64 B, .int .i64 C, .int .i64 D], 4⟩, ⟨some ⟨b1, 0, none⟩, 81, [.int .i64 A, .int .i64 B, .int .i64 C, .int .i64 D], 4⟩] [] := hS8
      refine sq 5 rfl rfl (Y_assign (v := .bool true) rfl rfl) ?_
      refine rw_nil ?_
      refine cw_ret ?_
      obtain ⟨rfl, rfl⟩ := pr2 (some_inj hF3)
      exact ret2 Try.results242 (v1 := .agg #[.int .i64 A, .int .i64 B, .int .i64 C, .int .i64 D]) (resAt_cellA (B := some ⟨b1, 0, none⟩) (i := 0) (cs := [.int .i64 A, .int .i64 B, .int .i64 C, .int .i64 D]) (vs := [.int .i64 A, .int .i64 B, .int .i64 C, .int .i64 D]) (hf.get 4 1 rfl) k_ag_81 k_sz_81_4 (hS8.cf (i := 1) rfl) rfl rfl) (v2 := .bool true) (resAt_tmp rfl) ⟨rfl, (ST.subR (R' := []) (hS8.sel [] rfl rfl) (fun _ h => by cases h))⟩

theorem c_impl_phase (k_ : Int)  (w0 : World)  (hS : ST w0 [] w0 [] []) {r_ : TDyadic} (hF : F_impl_phase k_ = some r_) :
    CV Try.prog 176 #[.int .i64 k_] w0 (fun v w' => v = .agg #[.int .i64 r_.Num.A, .int .i64 r_.Num.B, .int .i64 r_.Num.C, .int .i64 r_.Num.D, .int .i64 r_.Exp] ∧ ST w0 [] w' [] []) := by
  unfold F_impl_phase at hF
  refine cv_of_cw 13 Try.func176 rfl Try.ntmps176 rfl ?_
  refine cw_seq ?_
  refine cw_region ?_
  refine ss 2 rfl rfl (Ys_alloc (T := 83) (cs := [.int .i64 0, .int .i64 0, .int .i64 0, .int .i64 0, .int .i64 0]) (m := 5) hS k_zero_83 rfl rfl rfl) ?_
  rintro _ w_ ⟨b, rfl, hS1⟩
  refine rw_nil ?_
  refine cw_seq ?_
  refine cw_region ?_
  refine sq 6 rfl rfl (Y_buildS (zs := [.int .i64 0, .int .i64 0, .int .i64 0, .int .i64 0]) (vs := [(0, .int .i64 1)]) (cs := [.int .i64 1, .int .i64 0, .int .i64 0, .int .i64 0]) k_pl_81 k_zero_81 rfl (mpc rfl mpn) rfl) ?_
  refine sq 7 rfl rfl (Y_move (v := .int .i64 k_) rfl rfl) ?_
  obtain ⟨⟨r_1, r_2⟩, hc, hF⟩ := bind_inv hF
  refine sc 8 rfl rfl (Yc_func (g := 242) (vs := [.agg #[.int .i64 1, .int .i64 0, .int .i64 0, .int .i64 0], .int .i64 k_]) k_call_242 rfl (mc rfl (mc rfl mn)) (c_impl_MulOmega (TRing.mk 1 0 0 0) k_ _  (hS1.inn0 [] rfl) hc)) ?_
  rintro _ w_1 ⟨rfl, hd⟩
  have hS2 := hS1.out00 hd
  refine sq 5 rfl rfl (Y_move (v := .tuple #[.agg #[.int .i64 r_1.A, .int .i64 r_1.B, .int .i64 r_1.C, .int .i64 r_1.D], .bool r_2]) rfl rfl) ?_
  refine sq 9 rfl rfl (Y_extract (v := .agg #[.int .i64 r_1.A, .int .i64 r_1.B, .int .i64 r_1.C, .int .i64 r_1.D]) rfl rfl rfl) ?_
  refine sq 10 rfl rfl (Y_extract (v := .bool r_2) rfl rfl rfl) ?_
  refine ss 3 rfl rfl (Ys_alloc (T := 81) (cs := [.int .i64 0, .int .i64 0, .int .i64 0, .int .i64 0]) (m := 4) hS2 k_zero_81 rfl rfl rfl) ?_
  rintro _ w_2 ⟨b1, rfl, hS3⟩
  have hS3 : ST w0 [] _ [⟨some ⟨b, 0, none⟩, 83, [.int .i64 0, .int .i64 0, .int .i64 0, .int .i64 0, .int .i64 0], 5⟩, ⟨some ⟨b1, 0, none⟩, 81, [.int .i64 0, .int .i64 0, .int .i64 0, .int .i64 0], 4⟩] [] := hS3
  refine ss0 rfl rfl (Ys_store (i := 1) (s := 4) (B := some ⟨b1, 0, none⟩) (T' := 81) (v := .agg #[.int .i64 r_1.A, .int .i64 r_1.B, .int .i64 r_1.C, .int .i64 r_1.D]) (vs := [.int .i64 r_1.A, .int .i64 r_1.B, .int .i64 r_1.C, .int .i64 r_1.D]) (k := 0) (cs' := [.int .i64 r_1.A, .int .i64 r_1.B, .int .i64 r_1.C, .int .i64 r_1.D]) hS3 k_sz_81_4 rfl rfl rfl rfl rfl rfl rfl (Nat.le_of_ble_eq_true rfl) rfl rfl) ?_
  rintro _ w_3 ⟨rfl, hS4⟩
  have hS4 : ST w0 [] _ [⟨some ⟨b, 0, none⟩, 83, [.int .i64 0, .int .i64 0, .int .i64 0, .int .i64 0, .int .i64 0], 5⟩, ⟨some ⟨b1, 0, none⟩, 81, [.int .i64 r_1.A, .int .i64 r_1.B, .int .i64 r_1.C, .int .i64 r_1.D], 4⟩] [] := hS4
  refine sq 4 rfl rfl (Y_assign (v := .bool r_2) rfl rfl) ?_
  refine rw_nil ?_
  refine cw_seq ?_
  refine cw_region ?_
  refine sq 11 rfl rfl (Y_loadA (B := some ⟨b1, 0, none⟩) (i := 0) (cs := [.int .i64 r_1.A, .int .i64 r_1.B, .int .i64 r_1.C, .int .i64 r_1.D]) (vs := [.int .i64 r_1.A, .int .i64 r_1.B, .int .i64 r_1.C, .int .i64 r_1.D]) k_ag_81 k_sz_81_4 rfl rfl (hS4.cf (i := 1) rfl) rfl rfl) ?_
  refine sq 12 rfl rfl (Y_buildS (zs := [.int .i64 0, .int .i64 0, .int .i64 0, .int .i64 0, .int .i64 0]) (vs := [(0, .agg #[.int .i64 r_1.A, .int .i64 r_1.B, .int .i64 r_1.C, .int .i64 r_1.D])]) (cs := [.int .i64 r_1.A, .int .i64 r_1.B, .int .i64 r_1.C, .int .i64 r_1.D, .int .i64 0]) k_pl_83 k_zero_83 rfl (mpc rfl mpn) rfl) ?_
  refine ss0 rfl rfl (Ys_store (i := 0) (s := 5) (B := some ⟨b, 0, none⟩) (T' := 83) (v := .agg #[.int .i64 r_1.A, .int .i64 r_1.B, .int .i64 r_1.C, .int .i64 r_1.D, .int .i64 0]) (vs := [.int .i64 r_1.A, .int .i64 r_1.B, .int .i64 r_1.C, .int .i64 r_1.D, .int .i64 0]) (k := 0) (cs' := [.int .i64 r_1.A, .int .i64 r_1.B, .int .i64 r_1.C, .int .i64 r_1.D, .int .i64 0]) hS4 k_sz_83_5 rfl rfl rfl rfl rfl rfl rfl (Nat.le_of_ble_eq_true rfl) rfl rfl) ?_
  rintro _ w_4 ⟨rfl, hS5⟩
  have hS5 : ST w0 [] _ [⟨some ⟨b, 0, none⟩, 83, [.int .i64 r_1.A, .int .i64 r_1.B, .int .i64 r_1.C, .int .i64 r_1.D, .int .i64 0], 5⟩, ⟨some ⟨b1, 0, none⟩, 81, [.int .i64 r_1.A, .int .i64 r_1.B, .int .i64 r_1.C, .int .i64 r_1.D], 4⟩] [] := hS5
  refine rw_nil ?_
  refine cw_ret ?_
  obtain rfl := some_inj hF
  exact ret1 Try.results176 (v1 := .agg #[.int .i64 r_1.A, .int .i64 r_1.B, .int .i64 r_1.C, .int .i64 r_1.D, .int .i64 0]) (resAt_cellA (B := some ⟨b, 0, none⟩) (i := 0) (cs := [.int .i64 r_1.A, .int .i64 r_1.B, .int .i64 r_1.C, .int .i64 r_1.D, .int .i64 0]) (vs := [.int .i64 r_1.A, .int .i64 r_1.B, .int .i64 r_1.C, .int .i64 r_1.D, .int .i64 0]) rfl k_ag_83 k_sz_83_5 (hS5.cf (i := 0) rfl) rfl rfl) ⟨rfl, (ST.subR (R' := []) (hS5.sel [] rfl rfl) (fun _ h => by cases h))⟩

theorem c_impl_small (holds : Bool)  (w0 : World)  (hS : ST w0 [] w0 [] []) {r_ : Int} (hF : F_impl_small holds = some r_) :
    CV Try.prog 221 #[.bool holds] w0 (fun v w' => v = .int .i64 r_ ∧ ST w0 [] w' [] []) := by
  unfold F_impl_small at hF
  refine cv_of_cw 4 Try.func221 rfl Try.ntmps221 rfl ?_
  refine cw_seq ?_
  refine cw_region ?_
  refine sq 2 rfl rfl (Y_assign (v := .int .i64 0) rfl rfl) ?_
  refine rw_nil ?_
  refine cw_seq ?_
  refine cw_seq ?_
  refine cw_region ?_
  refine sq 3 rfl rfl (Y_move (v := .bool holds) rfl rfl) ?_
  refine rw_nil ?_
  refine cw_cond (b := holds) rfl (fun hb => ?_) (fun hb => ?_)
  · skip
    have hF1 := ct hF hb
    refine cw_seq ?_
    refine cw_region ?_
    refine sq 2 rfl rfl (Y_assign (v := .int .i64 1) rfl rfl) ?_
    refine rw_nil ?_
    refine cw_ret ?_
    obtain rfl := some_inj hF1
    exact ret1 Try.results221 (v1 := .int .i64 1) (resAt_tmp rfl) ⟨rfl, (ST.subR (R' := []) (hS.sel [] rfl rfl) (fun _ h => by cases h))⟩
  · skip
    have hF2 := cf' hF hb
    refine cw_skip ?_
    refine cw_seq ?_
    refine cw_region ?_
    refine sq 2 rfl rfl (Y_assign (v := .int .i64 0) rfl rfl) ?_
    refine rw_nil ?_
    refine cw_ret ?_
    obtain rfl := some_inj hF2
    exact ret1 Try.results221 (v1 := .int .i64 0) (resAt_tmp rfl) ⟨rfl, (ST.subR (R' := []) (hS.sel [] rfl rfl) (fun _ h => by cases h))⟩

theorem c_impl_flipped (n : Int) (state : Int) (q : Int)  (w0 : World)  (hS : ST w0 [] w0 [] []) {r_ : Int} (hF : F_impl_flipped n state q = some r_) :
    CV Try.prog 267 #[.int .i64 n, .int .i64 state, .int .i64 q] w0 (fun v w' => v = .int .i64 r_ ∧ ST w0 [] w' [] []) := by
  unfold F_impl_flipped at hF
  refine cv_of_cw 14 Try.func267 rfl Try.ntmps267 rfl ?_
  refine cw_seq ?_
  refine cw_region ?_
  refine sq 6 rfl rfl (Y_assign (v := .int .i64 0) rfl rfl) ?_
  refine rw_nil ?_
  refine cw_seq ?_
  refine cw_region ?_
  refine sq 7 rfl rfl (Y_move (v := .int .i64 state) rfl rfl) ?_
  refine sq 8 rfl rfl (Y_move (v := .int .i64 n) rfl rfl) ?_
  refine sq 9 rfl rfl (Y_sub (k := .i64) (a := n) (b := 1) rfl rfl rfl) ?_
  refine sq 10 rfl rfl (Y_move (v := .int .i64 q) rfl rfl) ?_
  refine sq 11 rfl rfl (Y_sub (k := .i64) (a := (IntKind.i64.wrap (n - 1))) (b := q) rfl rfl rfl) ?_
  obtain ⟨hsh, hF⟩ := chk_inv hF
  refine sq 12 rfl rfl (Y_shl (k := .i64) (a := 1) (k' := .i64) (b := (IntKind.i64.wrap ((IntKind.i64.wrap (n - 1)) - q))) rfl rfl rfl hsh) ?_
  refine sq 13 rfl rfl (Y_bxor (k := .i64) (a := state) (b := (shlK .i64 1 (IntKind.i64.wrap ((IntKind.i64.wrap (n - 1)) - q)))) rfl rfl rfl) ?_
  refine sq 6 rfl rfl (Y_assign (v := .int .i64 (bits .xor .i64 state (shlK .i64 1 (IntKind.i64.wrap ((IntKind.i64.wrap (n - 1)) - q))))) rfl rfl) ?_
  refine rw_nil ?_
  refine cw_ret ?_
  obtain rfl := some_inj hF
  exact ret1 Try.results267 (v1 := .int .i64 (bits .xor .i64 state (shlK .i64 1 (IntKind.i64.wrap ((IntKind.i64.wrap (n - 1)) - q))))) (resAt_tmp rfl) ⟨rfl, (ST.subR (R' := []) (hS.sel [] rfl rfl) (fun _ h => by cases h))⟩

theorem c_impl_comesFrom (n : Int) (g : TGate) (state : Int)  (w0 : World)  (hS : ST w0 [] w0 [] []) {r_ : Int} (hF : F_impl_comesFrom n g state = some r_) :
    CV Try.prog 266 #[.int .i64 n, .agg #[.int .i64 g.Kind, .int .i64 g.A, .int .i64 g.B], .int .i64 state] w0 (fun v w' => v = .int .i64 r_ ∧ ST w0 [] w' [] []) := by
  unfold F_impl_comesFrom at hF
  refine cv_of_cw 51 Try.func266 rfl Try.ntmps266 rfl ?_
  refine cw_seq ?_
  refine cw_region ?_
  refine ss 4 rfl rfl (Ys_box (T := 171) (v := .agg #[.int .i64 g.Kind, .int .i64 g.A, .int .i64 g.B]) (cs := [.int .i64 g.Kind, .int .i64 g.A, .int .i64 g.B]) (m := 3) hS rfl rfl rfl rfl) ?_
  rintro _ w_ ⟨b, rfl, hS1⟩
  refine sq 6 rfl rfl (Y_assign (v := .int .i64 0) rfl rfl) ?_
  refine rw_nil ?_
  refine cw_seq ?_
  obtain ⟨r_1, hc, hF⟩ := bind_inv hF
  obtain ⟨r_2, hc1, hF⟩ := bind_inv hF
  refine ra_start (ST.sel hS1 [0] rfl rfl).fn (by kernel_rfl) ?_
  have hS4 := hS1.drew
  refine ra_q 0 9 (v := .int .i64 n) rfl rfl rfl (by kernel_rfl) (by kernel_rfl) (by kernel_rfl) (ST.sel hS4 [0] rfl rfl) (fun w' hw' => (Y_move (v := .int .i64 n) rfl rfl)) ?_
  refine ra_q 1 10 (v := .int .i64 state) rfl rfl rfl (by kernel_rfl) (by kernel_rfl) (by kernel_rfl) (ST.sel hS4 [0] rfl rfl) (fun w' hw' => (Y_move (v := .int .i64 state) rfl rfl)) ?_
  refine ra_q 2 11 (v := pt (some ⟨b, 0, none⟩) 1) rfl rfl rfl (by kernel_rfl) (by kernel_rfl) (by kernel_rfl) (ST.sel hS4 [0] rfl rfl) (fun w' hw' => (Y_fieldAddr (B := some ⟨b, 0, none⟩) (i := 0) (s := 0) k_fd_171_1_1_3 k_sz_3_1 rfl rfl)) ?_
  refine ra_q 3 12 (v := .int .i64 g.A) rfl rfl rfl (by kernel_rfl) (by kernel_rfl) (by kernel_rfl) (ST.sel hS4 [0] rfl rfl) (fun w' hw' => (Y_load1 (B := some ⟨b, 0, none⟩) (i := 1) (cs := [.int .i64 g.Kind, .int .i64 g.A, .int .i64 g.B]) (v := .int .i64 g.A) k_sc_3 rfl rfl (ST.cf hw' (i := 0) rfl) rfl)) ?_
  refine ra_q 5 14 (v := .int .i64 n) rfl rfl rfl (by kernel_rfl) (by kernel_rfl) (by kernel_rfl) (ST.sel hS4 [0] rfl rfl) (fun w' hw' => (Y_move (v := .int .i64 n) rfl rfl)) ?_
  refine ra_q 6 15 (v := .int .i64 state) rfl rfl rfl (by kernel_rfl) (by kernel_rfl) (by kernel_rfl) (ST.sel hS4 [0] rfl rfl) (fun w' hw' => (Y_move (v := .int .i64 state) rfl rfl)) ?_
  refine ra_q 7 16 (v := pt (some ⟨b, 0, none⟩) 2) rfl rfl rfl (by kernel_rfl) (by kernel_rfl) (by kernel_rfl) (ST.sel hS4 [0] rfl rfl) (fun w' hw' => (Y_fieldAddr (B := some ⟨b, 0, none⟩) (i := 0) (s := 0) k_fd_171_2_2_3 k_sz_3_1 rfl rfl)) ?_
  refine ra_q 8 17 (v := .int .i64 g.B) rfl rfl rfl (by kernel_rfl) (by kernel_rfl) (by kernel_rfl) (ST.sel hS4 [0] rfl rfl) (fun w' hw' => (Y_load1 (B := some ⟨b, 0, none⟩) (i := 2) (cs := [.int .i64 g.Kind, .int .i64 g.A, .int .i64 g.B]) (v := .int .i64 g.B) k_sc_3 rfl rfl (ST.cf hw' (i := 0) rfl) rfl)) ?_
  refine ra_all (rs := [4]) (by kernel_rfl) rfl ?_
  refine ra_c 13 (i := 4) rfl rfl rfl (Yc_func (g := 115) (vs := [.int .i64 n, .int .i64 state, .int .i64 g.A]) k_call_115 rfl (mc rfl (mc rfl (mc rfl mn))) (c_impl_bitOf n state g.A _  (hS4.inn0 [] rfl) hc)) ?_ ?_
  · rintro _ w_1 ⟨rfl, hd⟩
    have hS5 := hS4.out00 hd
    refine ⟨(ST.sel hS5 [0] rfl rfl), ?_⟩
    refine ra_all (rs := [9]) (by kernel_rfl) rfl ?_
    refine ra_c 18 (i := 9) rfl rfl rfl (Yc_func (g := 115) (vs := [.int .i64 n, .int .i64 state, .int .i64 g.B]) k_call_115 rfl (mc rfl (mc rfl (mc rfl mn))) (c_impl_bitOf n state g.B _  (hS5.inn0 [] rfl) hc1)) ?_ ?_
    · rintro _ w_2 ⟨rfl, hd1⟩
      have hS6 := hS5.out00 hd1
      refine ⟨(ST.sel hS6 [0] rfl rfl), ?_⟩
      refine ra_q 10 7 (v := .int .i64 r_1) rfl rfl rfl (by kernel_rfl) (by kernel_rfl) (by kernel_rfl) (ST.sel hS6 [0] rfl rfl) (fun w' hw' => (Y_assign (v := .int .i64 r_1) rfl rfl)) ?_
      refine ra_q 11 8 (v := .int .i64 r_2) rfl rfl rfl (by kernel_rfl) (by kernel_rfl) (by kernel_rfl) (ST.sel hS6 [0] rfl rfl) (fun w' hw' => (Y_assign (v := .int .i64 r_2) rfl rfl)) ?_
      refine ra_done (by kernel_rfl) ?_
      refine cw_seq ?_
      refine cw_block ?_
      refine cw_seq ?_
      refine cw_region ?_
      refine sq 20 rfl rfl (Y_fieldAddr (B := some ⟨b, 0, none⟩) (i := 0) (s := 0) k_fd_171_0_0_3 k_sz_3_1 rfl rfl) ?_
      refine sq 21 rfl rfl (Y_load1 (B := some ⟨b, 0, none⟩) (i := 0) (cs := [.int .i64 g.Kind, .int .i64 g.A, .int .i64 g.B]) (v := .int .i64 g.Kind) k_sc_3 rfl rfl (hS6.cf (i := 0) rfl) rfl) ?_
      refine sq 22 rfl rfl (Y_eq (k := .i64) (a := g.Kind) (b := 9) rfl rfl rfl) ?_
      refine sq 23 rfl rfl (Y_move (v := .bool (g.Kind == 9)) rfl rfl) ?_
      refine sgq 24 (B := (g.Kind == 9)) (v := .int .i64 r_1) rfl rfl (wt_t (gd_of (t := 23) (by kernel_rfl) rfl)) (fun hg => (Y_move (v := .int .i64 r_1) rfl rfl)) ?_
      refine sgq 25 (B := (g.Kind == 9)) (v := .bool (r_1 == 1)) rfl rfl (wt_t (gd_of (t := 23) (by kernel_rfl) rfl)) (fun hg1 => (Y_eq (k := .i64) (a := r_1) (b := 1) rfl (gv_of (B := (g.Kind == 9)) (v := .int .i64 r_1) hg1) rfl)) ?_
      refine sq 26 rfl rfl (Y_and (b := (g.Kind == 9)) (z := (r_1 == 1)) rfl rfl rfl rfl) ?_
      refine sq 19 rfl rfl (Y_assign (v := .bool ((g.Kind == 9) && (r_1 == 1))) rfl rfl) ?_
      refine rw_nil ?_
      refine cw_cond (b := ((g.Kind == 9) && (r_1 == 1))) rfl (fun hb => ?_) (fun hb => ?_)
      · skip
        have hF1 := ct hF hb
        refine cw_seq ?_
        refine cw_region ?_
        refine sq 27 rfl rfl (Y_move (v := .int .i64 n) rfl rfl) ?_
        refine sq 28 rfl rfl (Y_move (v := .int .i64 state) rfl rfl) ?_
        refine sq 29 rfl rfl (Y_fieldAddr (B := some ⟨b, 0, none⟩) (i := 0) (s := 0) k_fd_171_2_2_3 k_sz_3_1 rfl rfl) ?_
        refine sq 30 rfl rfl (Y_load1 (B := some ⟨b, 0, none⟩) (i := 2) (cs := [.int .i64 g.Kind, .int .i64 g.A, .int .i64 g.B]) (v := .int .i64 g.B) k_sc_3 rfl rfl (hS6.cf (i := 0) rfl) rfl) ?_
        obtain ⟨r_3, hc2, hF1⟩ := bind_inv hF1
        refine sc 31 rfl rfl (Yc_func (g := 267) (vs := [.int .i64 n, .int .i64 state, .int .i64 g.B]) k_call_267 rfl (mc rfl (mc rfl (mc rfl mn))) (c_impl_flipped n state g.B _  (hS6.inn0 [] rfl) hc2)) ?_
        rintro _ w_3 ⟨rfl, hd2⟩
        have hS7 := hS6.out00 hd2
        refine sq 6 rfl rfl (Y_assign (v := .int .i64 r_3) rfl rfl) ?_
        refine rw_nil ?_
        refine cw_ret ?_
        obtain rfl := some_inj hF1
        exact ret1 Try.results266 (v1 := .int .i64 r_3) (resAt_tmp rfl) ⟨rfl, (ST.subR (R' := []) (hS7.sel [] rfl rfl) (fun _ h => by cases h))⟩
      · skip
        have hF2 := cf' hF hb
        refine cw_seq ?_
        refine cw_region ?_
        refine sq 33 rfl rfl (Y_fieldAddr (B := some ⟨b, 0, none⟩) (i := 0) (s := 0) k_fd_171_0_0_3 k_sz_3_1 rfl rfl) ?_
        refine sq 34 rfl rfl (Y_load1 (B := some ⟨b, 0, none⟩) (i := 0) (cs := [.int .i64 g.Kind, .int .i64 g.A, .int .i64 g.B]) (v := .int .i64 g.Kind) k_sc_3 rfl rfl (hS6.cf (i := 0) rfl) rfl) ?_
        refine sq 35 rfl rfl (Y_eq (k := .i64) (a := g.Kind) (b := 11) rfl rfl rfl) ?_
        refine sq 36 rfl rfl (Y_move (v := .bool (g.Kind == 11)) rfl rfl) ?_
        refine sgq 37 (B := (g.Kind == 11)) (v := .int .i64 r_1) rfl rfl (wt_t (gd_of (t := 36) (by kernel_rfl) rfl)) (fun hg2 => (Y_move (v := .int .i64 r_1) rfl rfl)) ?_
        refine sgq 38 (B := (g.Kind == 11)) (v := .int .i64 r_2) rfl rfl (wt_t (gd_of (t := 36) (by kernel_rfl) rfl)) (fun hg3 => (Y_move (v := .int .i64 r_2) rfl rfl)) ?_
        refine sgq 39 (B := (g.Kind == 11)) (v := .bool (r_1 != r_2)) rfl rfl (wt_t (gd_of (t := 36) (by kernel_rfl) rfl)) (fun hg4 => (Y_ne (k := .i64) (a := r_1) (b := r_2) rfl (gv_of (B := (g.Kind == 11)) (v := .int .i64 r_1) hg4) (gv_of (B := (g.Kind == 11)) (v := .int .i64 r_2) hg4))) ?_
        refine sq 40 rfl rfl (Y_and (b := (g.Kind == 11)) (z := (r_1 != r_2)) rfl rfl rfl rfl) ?_
        refine sq 32 rfl rfl (Y_assign (v := .bool ((g.Kind == 11) && (r_1 != r_2))) rfl rfl) ?_
        refine rw_nil ?_
        refine cw_cond (b := ((g.Kind == 11) && (r_1 != r_2))) rfl (fun hb1 => ?_) (fun hb1 => ?_)
        · skip
          have hF3 := ct hF2 hb1
          refine cw_seq ?_
          obtain ⟨r_4, hc3, hF3⟩ := bind_inv hF3
          obtain ⟨r_5, hc4, hF3⟩ := bind_inv hF3
          refine ra_start (ST.sel hS6 [0] rfl rfl).fn (by kernel_rfl) ?_
          have hS10 := hS6.drew
          refine ra_q 0 41 (v := .int .i64 n) rfl rfl rfl (by kernel_rfl) (by kernel_rfl) (by kernel_rfl) (ST.sel hS10 [0] rfl rfl) (fun w' hw' => (Y_move (v := .int .i64 n) rfl rfl)) ?_
          refine ra_q 1 42 (v := .int .i64 n) rfl rfl rfl (by kernel_rfl) (by kernel_rfl) (by kernel_rfl) (ST.sel hS10 [0] rfl rfl) (fun w' hw' => (Y_move (v := .int .i64 n) rfl rfl)) ?_
          refine ra_q 2 43 (v := .int .i64 state) rfl rfl rfl (by kernel_rfl) (by kernel_rfl) (by kernel_rfl) (ST.sel hS10 [0] rfl rfl) (fun w' hw' => (Y_move (v := .int .i64 state) rfl rfl)) ?_
          refine ra_q 3 44 (v := pt (some ⟨b, 0, none⟩) 1) rfl rfl rfl (by kernel_rfl) (by kernel_rfl) (by kernel_rfl) (ST.sel hS10 [0] rfl rfl) (fun w' hw' => (Y_fieldAddr (B := some ⟨b, 0, none⟩) (i := 0) (s := 0) k_fd_171_1_1_3 k_sz_3_1 rfl rfl)) ?_
          refine ra_q 4 45 (v := .int .i64 g.A) rfl rfl rfl (by kernel_rfl) (by kernel_rfl) (by kernel_rfl) (ST.sel hS10 [0] rfl rfl) (fun w' hw' => (Y_load1 (B := some ⟨b, 0, none⟩) (i := 1) (cs := [.int .i64 g.Kind, .int .i64 g.A, .int .i64 g.B]) (v := .int .i64 g.A) k_sc_3 rfl rfl (ST.cf hw' (i := 0) rfl) rfl)) ?_
          refine ra_q 6 47 (v := pt (some ⟨b, 0, none⟩) 2) rfl rfl rfl (by kernel_rfl) (by kernel_rfl) (by kernel_rfl) (ST.sel hS10 [0] rfl rfl) (fun w' hw' => (Y_fieldAddr (B := some ⟨b, 0, none⟩) (i := 0) (s := 0) k_fd_171_2_2_3 k_sz_3_1 rfl rfl)) ?_
          refine ra_q 7 48 (v := .int .i64 g.B) rfl rfl rfl (by kernel_rfl) (by kernel_rfl) (by kernel_rfl) (ST.sel hS10 [0] rfl rfl) (fun w' hw' => (Y_load1 (B := some ⟨b, 0, none⟩) (i := 2) (cs := [.int .i64 g.Kind, .int .i64 g.A, .int .i64 g.B]) (v := .int .i64 g.B) k_sc_3 rfl rfl (ST.cf hw' (i := 0) rfl) rfl)) ?_
          refine ra_all (rs := [5]) (by kernel_rfl) rfl ?_
          refine ra_c 46 (i := 5) rfl rfl rfl (Yc_func (g := 267) (vs := [.int .i64 n, .int .i64 state, .int .i64 g.A]) k_call_267 rfl (mc rfl (mc rfl (mc rfl mn))) (c_impl_flipped n state g.A _  (hS10.inn0 [] rfl) hc3)) ?_ ?_
          · rintro _ w_4 ⟨rfl, hd3⟩
            have hS11 := hS10.out00 hd3
            refine ⟨(ST.sel hS11 [0] rfl rfl), ?_⟩
            refine ra_all (rs := [8]) (by kernel_rfl) rfl ?_
            refine ra_c 49 (i := 8) rfl rfl rfl (Yc_func (g := 267) (vs := [.int .i64 n, .int .i64 r_4, .int .i64 g.B]) k_call_267 rfl (mc rfl (mc rfl (mc rfl mn))) (c_impl_flipped n r_4 g.B _  (hS11.inn0 [] rfl) hc4)) ?_ ?_
            · rintro _ w_5 ⟨rfl, hd4⟩
              have hS12 := hS11.out00 hd4
              refine ⟨(ST.sel hS12 [0] rfl rfl), ?_⟩
              refine ra_q 9 6 (v := .int .i64 r_5) rfl rfl rfl (by kernel_rfl) (by kernel_rfl) (by kernel_rfl) (ST.sel hS12 [0] rfl rfl) (fun w' hw' => (Y_assign (v := .int .i64 r_5) rfl rfl)) ?_
              refine ra_done (by kernel_rfl) ?_
              refine cw_ret ?_
              obtain rfl := some_inj hF3
              exact ret1 Try.results266 (v1 := .int .i64 r_5) (resAt_tmp rfl) ⟨rfl, (ST.subR (R' := []) (hS12.sel [] rfl rfl) (fun _ h => by cases h))⟩
            exact allR_nil
          exact allR_nil
        · skip
          have hF4 := cf' hF2 hb1
          refine cw_skip ?_
          refine cw_seq ?_
          refine cw_region ?_
          refine sq 50 rfl rfl (Y_move (v := .int .i64 state) rfl rfl) ?_
          refine sq 6 rfl rfl (Y_assign (v := .int .i64 state) rfl rfl) ?_
          refine rw_nil ?_
          refine cw_ret ?_
          obtain rfl := some_inj hF4
          exact ret1 Try.results266 (v1 := .int .i64 state) (resAt_tmp rfl) ⟨rfl, (ST.subR (R' := []) (hS6.sel [] rfl rfl) (fun _ h => by cases h))⟩
    exact allR_nil
  exact allR_nil

theorem c_impl_entry (kind : Int) (i : Int) (j : Int)  (w0 : World)  (hS : ST w0 [] w0 [] []) {r_ : TDyadic} (hF : F_impl_entry kind i j = some r_) :
    CV Try.prog 268 #[.int .i64 kind, .int .i64 i, .int .i64 j] w0 (fun v w' => v = .agg #[.int .i64 r_.Num.A, .int .i64 r_.Num.B, .int .i64 r_.Num.C, .int .i64 r_.Num.D, .int .i64 r_.Exp] ∧ ST w0 [] w' [] []) := by
  unfold F_impl_entry at hF
  refine cv_of_cw 67 Try.func268 rfl Try.ntmps268 rfl ?_
  refine cw_seq ?_
  refine cw_region ?_
  refine ss 6 rfl rfl (Ys_alloc (T := 83) (cs := [.int .i64 0, .int .i64 0, .int .i64 0, .int .i64 0, .int .i64 0]) (m := 5) hS k_zero_83 rfl rfl rfl) ?_
  rintro _ w_ ⟨b, rfl, hS1⟩
  refine rw_nil ?_
  refine cw_seq ?_
  refine cw_region ?_
  refine sq 9 rfl rfl (Y_buildS (zs := [.int .i64 0, .int .i64 0, .int .i64 0, .int .i64 0]) (vs := [(0, .int .i64 1)]) (cs := [.int .i64 1, .int .i64 0, .int .i64 0, .int .i64 0]) k_pl_81 k_zero_81 rfl (mpc rfl mpn) rfl) ?_
  refine sq 10 rfl rfl (Y_buildS (zs := [.int .i64 0, .int .i64 0, .int .i64 0, .int .i64 0, .int .i64 0]) (vs := [(0, .agg #[.int .i64 1, .int .i64 0, .int .i64 0, .int .i64 0]), (1, .int .i64 1)]) (cs := [.int .i64 1, .int .i64 0, .int .i64 0, .int .i64 0, .int .i64 1]) k_pl_83 k_zero_83 rfl (mpc rfl (mpc rfl mpn)) rfl) ?_
  refine ss 7 rfl rfl (Ys_alloc (T := 83) (cs := [.int .i64 0, .int .i64 0, .int .i64 0, .int .i64 0, .int .i64 0]) (m := 5) hS1 k_zero_83 rfl rfl rfl) ?_
  rintro _ w_1 ⟨b1, rfl, hS2⟩
  have hS2 : ST w0 [] _ [⟨some ⟨b, 0, none⟩, 83, [.int .i64 0, .int .i64 0, .int .i64 0, .int .i64 0, .int .i64 0], 5⟩, ⟨some ⟨b1, 0, none⟩, 83, [.int .i64 0, .int .i64 0, .int .i64 0, .int .i64 0, .int .i64 0], 5⟩] [] := hS2
  refine ss0 rfl rfl (Ys_store (i := 1) (s := 5) (B := some ⟨b1, 0, none⟩) (T' := 83) (v := .agg #[.int .i64 1, .int .i64 0, .int .i64 0, .int .i64 0, .int .i64 1]) (vs := [.int .i64 1, .int .i64 0, .int .i64 0, .int .i64 0, .int .i64 1]) (k := 0) (cs' := [.int .i64 1, .int .i64 0, .int .i64 0, .int .i64 0, .int .i64 1]) hS2 k_sz_83_5 rfl rfl rfl rfl rfl rfl rfl (Nat.le_of_ble_eq_true rfl) rfl rfl) ?_
  rintro _ w_2 ⟨rfl, hS3⟩
  have hS3 : ST w0 [] _ [⟨some ⟨b, 0, none⟩, 83, [.int .i64 0, .int .i64 0, .int .i64 0, .int .i64 0, .int .i64 0], 5⟩, ⟨some ⟨b1, 0, none⟩, 83, [.int .i64 1, .int .i64 0, .int .i64 0, .int .i64 0, .int .i64 1], 5⟩] [] := hS3
  refine rw_nil ?_
  refine cw_seq ?_
  refine cw_region ?_
  refine ss 11 rfl rfl (Ys_makeMap (T := 295) hS3 rfl) ?_
  rintro _ w_3 ⟨g, rfl, hS4⟩
  have hS5 := hS4.st
  have hS5 : ST w0 [] _ [⟨some ⟨b, 0, none⟩, 83, [.int .i64 0, .int .i64 0, .int .i64 0, .int .i64 0, .int .i64 0], 5⟩, ⟨some ⟨b1, 0, none⟩, 83, [.int .i64 1, .int .i64 0, .int .i64 0, .int .i64 0, .int .i64 1], 5⟩] [] := hS5
  refine ss0 rfl rfl (Ys_insert (kd := .i64) (ed := .i64) (a := 4) (b := 4) (es := #[]) hS4 k_map_295_3_3 k_int_3_i64 rfl rfl rfl rfl rfl) ?_
  rintro _ w_4 ⟨rfl, hS6⟩
  have hS7 := hS6.st
  have hS7 : ST w0 [] _ [⟨some ⟨b, 0, none⟩, 83, [.int .i64 0, .int .i64 0, .int .i64 0, .int .i64 0, .int .i64 0], 5⟩, ⟨some ⟨b1, 0, none⟩, 83, [.int .i64 1, .int .i64 0, .int .i64 0, .int .i64 0, .int .i64 1], 5⟩] [] := hS7
  refine ss0 rfl rfl (Ys_insert (kd := .i64) (ed := .i64) (a := 5) (b := 2) (es := (#[].push ⟨.int .i64 4, .int .i64 4, 0⟩)) hS6 k_map_295_3_3 k_int_3_i64 rfl rfl rfl rfl rfl) ?_
  rintro _ w_5 ⟨rfl, hS8⟩
  have hS9 := hS8.st
  have hS9 : ST w0 [] _ [⟨some ⟨b, 0, none⟩, 83, [.int .i64 0, .int .i64 0, .int .i64 0, .int .i64 0, .int .i64 0], 5⟩, ⟨some ⟨b1, 0, none⟩, 83, [.int .i64 1, .int .i64 0, .int .i64 0, .int .i64 0, .int .i64 1], 5⟩] [] := hS9
  refine ss0 rfl rfl (Ys_insert (kd := .i64) (ed := .i64) (a := 6) (b := 6) (es := ((#[].push ⟨.int .i64 4, .int .i64 4, 0⟩).push ⟨.int .i64 5, .int .i64 2, 1⟩)) hS8 k_map_295_3_3 k_int_3_i64 rfl rfl rfl rfl rfl) ?_
  rintro _ w_6 ⟨rfl, hS10⟩
  have hS11 := hS10.st
  have hS11 : ST w0 [] _ [⟨some ⟨b, 0, none⟩, 83, [.int .i64 0, .int .i64 0, .int .i64 0, .int .i64 0, .int .i64 0], 5⟩, ⟨some ⟨b1, 0, none⟩, 83, [.int .i64 1, .int .i64 0, .int .i64 0, .int .i64 0, .int .i64 1], 5⟩] [] := hS11
  refine ss0 rfl rfl (Ys_insert (kd := .i64) (ed := .i64) (a := 7) (b := 1) (es := (((#[].push ⟨.int .i64 4, .int .i64 4, 0⟩).push ⟨.int .i64 5, .int .i64 2, 1⟩).push ⟨.int .i64 6, .int .i64 6, 2⟩)) hS10 k_map_295_3_3 k_int_3_i64 rfl rfl rfl rfl rfl) ?_
  rintro _ w_7 ⟨rfl, hS12⟩
  have hS13 := hS12.st
  have hS13 : ST w0 [] _ [⟨some ⟨b, 0, none⟩, 83, [.int .i64 0, .int .i64 0, .int .i64 0, .int .i64 0, .int .i64 0], 5⟩, ⟨some ⟨b1, 0, none⟩, 83, [.int .i64 1, .int .i64 0, .int .i64 0, .int .i64 0, .int .i64 1], 5⟩] [] := hS13
  refine ss0 rfl rfl (Ys_insert (kd := .i64) (ed := .i64) (a := 8) (b := 7) (es := ((((#[].push ⟨.int .i64 4, .int .i64 4, 0⟩).push ⟨.int .i64 5, .int .i64 2, 1⟩).push ⟨.int .i64 6, .int .i64 6, 2⟩).push ⟨.int .i64 7, .int .i64 1, 3⟩)) hS12 k_map_295_3_3 k_int_3_i64 rfl rfl rfl rfl rfl) ?_
  rintro _ w_8 ⟨rfl, hS14⟩
  have hS15 := hS14.st
  have hS15 : ST w0 [] _ [⟨some ⟨b, 0, none⟩, 83, [.int .i64 0, .int .i64 0, .int .i64 0, .int .i64 0, .int .i64 0], 5⟩, ⟨some ⟨b1, 0, none⟩, 83, [.int .i64 1, .int .i64 0, .int .i64 0, .int .i64 0, .int .i64 1], 5⟩] [] := hS15
  refine sq 12 rfl rfl (Y_move (v := .map (some g)) rfl rfl) ?_
  refine sq 8 rfl rfl (Y_assign (v := .map (some g)) rfl rfl) ?_
  refine rw_nil ?_
  refine cw_seq ?_
  refine cw_block ?_
  refine cw_seq ?_
  refine cw_region ?_
  refine sq 14 rfl rfl (Y_move (v := .int .i64 kind) rfl rfl) ?_
  refine sq 15 rfl rfl (Y_eq (k := .i64) (a := kind) (b := 1) rfl rfl rfl) ?_
  refine sq 13 rfl rfl (Y_assign (v := .bool (kind == 1)) rfl rfl) ?_
  refine rw_nil ?_
  refine cw_cond (b := (kind == 1)) rfl (fun hb => ?_) (fun hb => ?_)
  · skip
    have hF1 := ct hF hb
    refine cw_seq ?_
    obtain ⟨z, hz, hF2⟩ := bind_inv hF1
    refine cw_mid (fun f w => ∃ (A : Int), A = z ∧ FF f [(6, pt (some ⟨b, 0, none⟩) 0), (7, pt (some ⟨b1, 0, none⟩) 0)] ∧ ST w0 [] w [⟨some ⟨b, 0, none⟩, 83, [.int .i64 0, .int .i64 0, .int .i64 0, .int .i64 0, .int .i64 0], 5⟩, ⟨some ⟨b1, 0, none⟩, 83, [.int .i64 A, .int .i64 0, .int .i64 0, .int .i64 0, .int .i64 1], 5⟩] []) ?_ ?_
    · skip
      refine cw_seq ?_
      refine cw_region ?_
      refine sq 16 rfl rfl (Y_move (v := .int .i64 i) rfl rfl) ?_
      refine sq 17 rfl rfl (Y_eq (k := .i64) (a := i) (b := 1) rfl rfl rfl) ?_
      refine sq 18 rfl rfl (Y_move (v := .bool (i == 1)) rfl rfl) ?_
      refine sgq 19 (B := (i == 1)) (v := .int .i64 j) rfl rfl (wt_t (gd_of (t := 18) (by kernel_rfl) rfl)) (fun hg => (Y_move (v := .int .i64 j) rfl rfl)) ?_
      refine sgq 20 (B := (i == 1)) (v := .bool (j == 1)) rfl rfl (wt_t (gd_of (t := 18) (by kernel_rfl) rfl)) (fun hg1 => (Y_eq (k := .i64) (a := j) (b := 1) rfl (gv_of (B := (i == 1)) (v := .int .i64 j) hg1) rfl)) ?_
      refine sq 21 rfl rfl (Y_and (b := (i == 1)) (z := (j == 1)) rfl rfl rfl rfl) ?_
      refine rw_nil ?_
      refine cw_cond (b := ((i == 1) && (j == 1))) rfl (fun hb1 => ?_) (fun hb1 => ?_)
      · skip
        have hF3 := ct hz hb1
        refine cw_region ?_
        refine sq 22 rfl rfl (Y_fieldAddr (B := some ⟨b1, 0, none⟩) (i := 0) (s := 3) k_fd_83_0_0_81 k_sz_81_4 rfl rfl) ?_
        refine sq 23 rfl rfl (Y_fieldAddr (B := some ⟨b1, 0, none⟩) (i := 0) (s := 0) k_fd_81_0_0_3 k_sz_3_1 rfl rfl) ?_
        refine ss0 rfl rfl (Ys_store (i := 1) (s := 1) (B := some ⟨b1, 0, none⟩) (T' := 83) (v := .int .i64 (-1)) (vs := [.int .i64 (-1)]) (k := 0) (cs' := [.int .i64 (-1), .int .i64 0, .int .i64 0, .int .i64 0, .int .i64 1]) hS15 k_sz_3_1 rfl rfl rfl rfl rfl rfl rfl (Nat.le_of_ble_eq_true rfl) rfl rfl) ?_
        rintro _ w_9 ⟨rfl, hS17⟩
        have hS17 : ST w0 [] _ [⟨some ⟨b, 0, none⟩, 83, [.int .i64 0, .int .i64 0, .int .i64 0, .int .i64 0, .int .i64 0], 5⟩, ⟨some ⟨b1, 0, none⟩, 83, [.int .i64 (-1), .int .i64 0, .int .i64 0, .int .i64 0, .int .i64 1], 5⟩] [] := hS17
        refine rw_nil ?_
        exact ⟨(-1), (some_inj hF3), (FF.cons rfl (FF.cons rfl FF.nil)), (hS17.sel [0, 1] rfl rfl)⟩
      · skip
        have hF4 := cf' hz hb1
        refine cw_skip ?_
        exact ⟨1, (some_inj hF4), (FF.cons rfl (FF.cons rfl FF.nil)), (hS15.sel [0, 1] rfl rfl)⟩
    rintro f w ⟨A, rfl, hf, hS16⟩
    refine cw_seq ?_
    refine cw_region ?_
    refine sq 24 rfl rfl (Y_loadA (B := some ⟨b1, 0, none⟩) (i := 0) (cs := [.int .i64 A, .int .i64 0, .int .i64 0, .int .i64 0, .int .i64 1]) (vs := [.int .i64 A, .int .i64 0, .int .i64 0, .int .i64 0, .int .i64 1]) k_ag_83 k_sz_83_5 rfl (hf.get 7 1 rfl) (hS16.cf (i := 1) rfl) rfl rfl) ?_
    refine ss0 rfl rfl (Ys_store (i := 0) (s := 5) (B := some ⟨b, 0, none⟩) (T' := 83) (v := .agg #[.int .i64 A, .int .i64 0, .int .i64 0, .int .i64 0, .int .i64 1]) (vs := [.int .i64 A, .int .i64 0, .int .i64 0, .int .i64 0, .int .i64 1]) (k := 0) (cs' := [.int .i64 A, .int .i64 0, .int .i64 0, .int .i64 0, .int .i64 1]) hS16 k_sz_83_5 rfl (hf.get 6 0 rfl) rfl rfl rfl rfl rfl (Nat.le_of_ble_eq_true rfl) rfl rfl) ?_
    rintro _ w_10 ⟨rfl, hS18⟩
    have hS18 : ST w0 [] _ [⟨some ⟨b, 0, none⟩, 83, [.int .i64 A, .int .i64 0, .int .i64 0, .int .i64 0, .int .i64 1], 5⟩, ⟨some ⟨b1, 0, none⟩, 83, [.int .i64 A, .int .i64 0, .int .i64 0, .int .i64 0, .int .i64 1], 5⟩] [] := hS18
    refine rw_nil ?_
    refine cw_ret ?_
    obtain rfl := some_inj hF2
    exact ret1 Try.results268 (v1 := .agg #[.int .i64 A, .int .i64 0, .int .i64 0, .int .i64 0, .int .i64 1]) (resAt_cellA (B := some ⟨b, 0, none⟩) (i := 0) (cs := [.int .i64 A, .int .i64 0, .int .i64 0, .int .i64 0, .int .i64 1]) (vs := [.int .i64 A, .int .i64 0, .int .i64 0, .int .i64 0, .int .i64 1]) (hf.get 6 0 rfl) k_ag_83 k_sz_83_5 (hS18.cf (i := 0) rfl) rfl rfl) ⟨rfl, (ST.subR (R' := []) (hS18.sel [] rfl rfl) (fun _ h => by cases h))⟩
  · skip
    have hF5 := cf' hF hb
    refine cw_seq ?_
    refine cw_region ?_
    refine sq 26 rfl rfl (Y_move (v := .int .i64 kind) rfl rfl) ?_
    refine sq 27 rfl rfl (Y_eq (k := .i64) (a := kind) (b := 2) rfl rfl rfl) ?_
    refine sq 28 rfl rfl (Y_move (v := .bool (kind == 2)) rfl rfl) ?_
    refine sgq 29 (B := (kind == 2)) (v := .int .i64 i) rfl rfl (wt_t (gd_of (t := 28) (by kernel_rfl) rfl)) (fun hg2 => (Y_move (v := .int .i64 i) rfl rfl)) ?_
    refine sgq 30 (B := (kind == 2)) (v := .int .i64 j) rfl rfl (wt_t (gd_of (t := 28) (by kernel_rfl) rfl)) (fun hg3 => (Y_move (v := .int .i64 j) rfl rfl)) ?_
    refine sgq 31 (B := (kind == 2)) (v := .bool (i != j)) rfl rfl (wt_t (gd_of (t := 28) (by kernel_rfl) rfl)) (fun hg4 => (Y_ne (k := .i64) (a := i) (b := j) rfl (gv_of (B := (kind == 2)) (v := .int .i64 i) hg4) (gv_of (B := (kind == 2)) (v := .int .i64 j) hg4))) ?_
    refine sq 32 rfl rfl (Y_and (b := (kind == 2)) (z := (i != j)) rfl rfl rfl rfl) ?_
    refine sq 25 rfl rfl (Y_assign (v := .bool ((kind == 2) && (i != j))) rfl rfl) ?_
    refine rw_nil ?_
    refine cw_cond (b := ((kind == 2) && (i != j))) rfl (fun hb2 => ?_) (fun hb2 => ?_)
    · skip
      have hF6 := ct hF5 hb2
      refine cw_seq ?_
      refine cw_region ?_
      obtain ⟨r_1, hc, hF6⟩ := bind_inv hF6
      refine sc 33 rfl rfl (Yc_func (g := 142) (vs := [.int .i64 1]) k_call_142 rfl (mc rfl mn) (c_impl_whole 1 _  (hS15.inn0 [] rfl) hc)) ?_
      rintro _ w_11 ⟨rfl, hd⟩
      have hS19 := hS15.out00 hd
      have hS19 : ST w0 [] _ [⟨some ⟨b, 0, none⟩, 83, [.int .i64 0, .int .i64 0, .int .i64 0, .int .i64 0, .int .i64 0], 5⟩, ⟨some ⟨b1, 0, none⟩, 83, [.int .i64 1, .int .i64 0, .int .i64 0, .int .i64 0, .int .i64 1], 5⟩] [] := hS19
      refine ss0 rfl rfl (Ys_store (i := 0) (s := 5) (B := some ⟨b, 0, none⟩) (T' := 83) (v := .agg #[.int .i64 r_1.Num.A, .int .i64 r_1.Num.B, .int .i64 r_1.Num.C, .int .i64 r_1.Num.D, .int .i64 r_1.Exp]) (vs := [.int .i64 r_1.Num.A, .int .i64 r_1.Num.B, .int .i64 r_1.Num.C, .int .i64 r_1.Num.D, .int .i64 r_1.Exp]) (k := 0) (cs' := [.int .i64 r_1.Num.A, .int .i64 r_1.Num.B, .int .i64 r_1.Num.C, .int .i64 r_1.Num.D, .int .i64 r_1.Exp]) hS19 k_sz_83_5 rfl rfl rfl rfl rfl rfl rfl (Nat.le_of_ble_eq_true rfl) rfl rfl) ?_
      rintro _ w_12 ⟨rfl, hS20⟩
      have hS20 : ST w0 [] _ [⟨some ⟨b, 0, none⟩, 83, [.int .i64 r_1.Num.A, .int .i64 r_1.Num.B, .int .i64 r_1.Num.C, .int .i64 r_1.Num.D, .int .i64 r_1.Exp], 5⟩, ⟨some ⟨b1, 0, none⟩, 83, [.int .i64 1, .int .i64 0, .int .i64 0, .int .i64 0, .int .i64 1], 5⟩] [] := hS20
      refine rw_nil ?_
      refine cw_ret ?_
      obtain rfl := some_inj hF6
      exact ret1 Try.results268 (v1 := .agg #[.int .i64 r_1.Num.A, .int .i64 r_1.Num.B, .int .i64 r_1.Num.C, .int .i64 r_1.Num.D, .int .i64 r_1.Exp]) (resAt_cellA (B := some ⟨b, 0, none⟩) (i := 0) (cs := [.int .i64 r_1.Num.A, .int .i64 r_1.Num.B, .int .i64 r_1.Num.C, .int .i64 r_1.Num.D, .int .i64 r_1.Exp]) (vs := [.int .i64 r_1.Num.A, .int .i64 r_1.Num.B, .int .i64 r_1.Num.C, .int .i64 r_1.Num.D, .int .i64 r_1.Exp]) rfl k_ag_83 k_sz_83_5 (hS20.cf (i := 0) rfl) rfl rfl) ⟨rfl, (ST.subR (R' := []) (hS20.sel [] rfl rfl) (fun _ h => by cases h))⟩
    · skip
      have hF7 := cf' hF5 hb2
      refine cw_seq ?_
      refine cw_region ?_
      refine sq 35 rfl rfl (Y_move (v := .int .i64 kind) rfl rfl) ?_
      refine sq 36 rfl rfl (Y_eq (k := .i64) (a := kind) (b := 3) rfl rfl rfl) ?_
      refine sq 37 rfl rfl (Y_move (v := .bool (kind == 3)) rfl rfl) ?_
      refine sgq 38 (B := (kind == 3)) (v := .int .i64 i) rfl rfl (wt_t (gd_of (t := 37) (by kernel_rfl) rfl)) (fun hg5 => (Y_move (v := .int .i64 i) rfl rfl)) ?_
      refine sgq 39 (B := (kind == 3)) (v := .int .i64 j) rfl rfl (wt_t (gd_of (t := 37) (by kernel_rfl) rfl)) (fun hg6 => (Y_move (v := .int .i64 j) rfl rfl)) ?_
      refine sgq 40 (B := (kind == 3)) (v := .bool (i != j)) rfl rfl (wt_t (gd_of (t := 37) (by kernel_rfl) rfl)) (fun hg7 => (Y_ne (k := .i64) (a := i) (b := j) rfl (gv_of (B := (kind == 3)) (v := .int .i64 i) hg7) (gv_of (B := (kind == 3)) (v := .int .i64 j) hg7))) ?_
      refine sq 41 rfl rfl (Y_and (b := (kind == 3)) (z := (i != j)) rfl rfl rfl rfl) ?_
      refine sq 34 rfl rfl (Y_assign (v := .bool ((kind == 3) && (i != j))) rfl rfl) ?_
      refine rw_nil ?_
      refine cw_cond (b := ((kind == 3) && (i != j))) rfl (fun hb3 => ?_) (fun hb3 => ?_)
      · skip
        have hF8 := ct hF7 hb3
        refine cw_seq ?_
        refine cw_region ?_
        refine sq 42 rfl rfl (Y_move (v := .int .i64 j) rfl rfl) ?_
        refine sq 43 rfl rfl (Y_mul (k := .i64) (a := 4) (b := j) rfl rfl rfl) ?_
        refine sq 44 rfl rfl (Y_add (k := .i64) (a := 2) (b := (IntKind.i64.wrap (4 * j))) rfl rfl rfl) ?_
        obtain ⟨r_2, hc1, hF8⟩ := bind_inv hF8
        refine sc 45 rfl rfl (Yc_func (g := 176) (vs := [.int .i64 (IntKind.i64.wrap (2 + (IntKind.i64.wrap (4 * j))))]) k_call_176 rfl (mc rfl mn) (c_impl_phase (IntKind.i64.wrap (2 + (IntKind.i64.wrap (4 * j)))) _  (hS15.inn0 [] rfl) hc1)) ?_
        rintro _ w_13 ⟨rfl, hd1⟩
        have hS21 := hS15.out00 hd1
        have hS21 : ST w0 [] _ [⟨some ⟨b, 0, none⟩, 83, [.int .i64 0, .int .i64 0, .int .i64 0, .int .i64 0, .int .i64 0], 5⟩, ⟨some ⟨b1, 0, none⟩, 83, [.int .i64 1, .int .i64 0, .int .i64 0, .int .i64 0, .int .i64 1], 5⟩] [] := hS21
        refine ss0 rfl rfl (Ys_store (i := 0) (s := 5) (B := some ⟨b, 0, none⟩) (T' := 83) (v := .agg #[.int .i64 r_2.Num.A, .int .i64 r_2.Num.B, .int .i64 r_2.Num.C, .int .i64 r_2.Num.D, .int .i64 r_2.Exp]) (vs := [.int .i64 r_2.Num.A, .int .i64 r_2.Num.B, .int .i64 r_2.Num.C, .int .i64 r_2.Num.D, .int .i64 r_2.Exp]) (k := 0) (cs' := [.int .i64 r_2.Num.A, .int .i64 r_2.Num.B, .int .i64 r_2.Num.C, .int .i64 r_2.Num.D, .int .i64 r_2.Exp]) hS21 k_sz_83_5 rfl rfl rfl rfl rfl rfl rfl (Nat.le_of_ble_eq_true rfl) rfl rfl) ?_
        rintro _ w_14 ⟨rfl, hS22⟩
        have hS22 : ST w0 [] _ [⟨some ⟨b, 0, none⟩, 83, [.int .i64 r_2.Num.A, .int .i64 r_2.Num.B, .int .i64 r_2.Num.C, .int .i64 r_2.Num.D, .int .i64 r_2.Exp], 5⟩, ⟨some ⟨b1, 0, none⟩, 83, [.int .i64 1, .int .i64 0, .int .i64 0, .int .i64 0, .int .i64 1], 5⟩] [] := hS22
        refine rw_nil ?_
        refine cw_ret ?_
        obtain rfl := some_inj hF8
        exact ret1 Try.results268 (v1 := .agg #[.int .i64 r_2.Num.A, .int .i64 r_2.Num.B, .int .i64 r_2.Num.C, .int .i64 r_2.Num.D, .int .i64 r_2.Exp]) (resAt_cellA (B := some ⟨b, 0, none⟩) (i := 0) (cs := [.int .i64 r_2.Num.A, .int .i64 r_2.Num.B, .int .i64 r_2.Num.C, .int .i64 r_2.Num.D, .int .i64 r_2.Exp]) (vs := [.int .i64 r_2.Num.A, .int .i64 r_2.Num.B, .int .i64 r_2.Num.C, .int .i64 r_2.Num.D, .int .i64 r_2.Exp]) rfl k_ag_83 k_sz_83_5 (hS22.cf (i := 0) rfl) rfl rfl) ⟨rfl, (ST.subR (R' := []) (hS22.sel [] rfl rfl) (fun _ h => by cases h))⟩
      · skip
        have hF9 := cf' hF7 hb3
        refine cw_seq ?_
        refine cw_region ?_
        refine sq 47 rfl rfl (Y_move (v := .int .i64 kind) rfl rfl) ?_
        refine sq 48 rfl rfl (Y_eq (k := .i64) (a := kind) (b := 2) rfl rfl rfl) ?_
        refine sq 49 rfl rfl (Y_move (v := .bool (kind == 2)) rfl rfl) ?_
        refine sgq 50 (B := (!(kind == 2))) (v := .int .i64 kind) rfl rfl (wt_f (gd_of (t := 49) (by kernel_rfl) rfl)) (fun hg8 => (Y_move (v := .int .i64 kind) rfl rfl)) ?_
        refine sgq 51 (B := (!(kind == 2))) (v := .bool (kind == 3)) rfl rfl (wt_f (gd_of (t := 49) (by kernel_rfl) rfl)) (fun hg9 => (Y_eq (k := .i64) (a := kind) (b := 3) rfl (gv_of (B := (!(kind == 2))) (v := .int .i64 kind) hg9) rfl)) ?_
        refine sq 52 rfl rfl (Y_or (b := (kind == 2)) (z := (kind == 3)) rfl rfl rfl rfl) ?_
        refine sq 53 rfl rfl (Y_move (v := .bool ((kind == 2) || (kind == 3))) rfl rfl) ?_
        refine sgq 54 (B := (!((kind == 2) || (kind == 3)))) (v := .int .i64 i) rfl rfl (wt_f (gd_of (t := 53) (by kernel_rfl) rfl)) (fun hg10 => (Y_move (v := .int .i64 i) rfl rfl)) ?_
        refine sgq 55 (B := (!((kind == 2) || (kind == 3)))) (v := .int .i64 j) rfl rfl (wt_f (gd_of (t := 53) (by kernel_rfl) rfl)) (fun hg11 => (Y_move (v := .int .i64 j) rfl rfl)) ?_
        refine sgq 56 (B := (!((kind == 2) || (kind == 3)))) (v := .bool (i != j)) rfl rfl (wt_f (gd_of (t := 53) (by kernel_rfl) rfl)) (fun hg12 => (Y_ne (k := .i64) (a := i) (b := j) rfl (gv_of (B := (!((kind == 2) || (kind == 3)))) (v := .int .i64 i) hg12) (gv_of (B := (!((kind == 2) || (kind == 3)))) (v := .int .i64 j) hg12))) ?_
        refine sq 57 rfl rfl (Y_or (b := ((kind == 2) || (kind == 3))) (z := (i != j)) rfl rfl rfl rfl) ?_
        refine sq 46 rfl rfl (Y_assign (v := .bool (((kind == 2) || (kind == 3)) || (i != j))) rfl rfl) ?_
        refine rw_nil ?_
        refine cw_cond (b := (((kind == 2) || (kind == 3)) || (i != j))) rfl (fun hb4 => ?_) (fun hb4 => ?_)
        · skip
          have hF10 := ct hF9 hb4
          refine cw_seq ?_
          refine cw_region ?_
          refine sq 58 rfl rfl (Y_buildS (zs := [.int .i64 0, .int .i64 0, .int .i64 0, .int .i64 0, .int .i64 0]) (vs := []) (cs := [.int .i64 0, .int .i64 0, .int .i64 0, .int .i64 0, .int .i64 0]) k_pl_83 k_zero_83 rfl mpn rfl) ?_
          refine ss0 rfl rfl (Ys_store (i := 0) (s := 5) (B := some ⟨b, 0, none⟩) (T' := 83) (v := .agg #[.int .i64 0, .int .i64 0, .int .i64 0, .int .i64 0, .int .i64 0]) (vs := [.int .i64 0, .int .i64 0, .int .i64 0, .int .i64 0, .int .i64 0]) (k := 0) (cs' := [.int .i64 0, .int .i64 0, .int .i64 0, .int .i64 0, .int .i64 0]) hS15 k_sz_83_5 rfl rfl rfl rfl rfl rfl rfl (Nat.le_of_ble_eq_true rfl) rfl rfl) ?_
          rintro _ w_15 ⟨rfl, hS23⟩
          have hS23 : ST w0 [] _ [⟨some ⟨b, 0, none⟩, 83, [.int .i64 0, .int .i64 0, .int .i64 0, .int .i64 0, .int .i64 0], 5⟩, ⟨some ⟨b1, 0, none⟩, 83, [.int .i64 1, .int .i64 0, .int .i64 0, .int .i64 0, .int .i64 1], 5⟩] [] := hS23
          refine rw_nil ?_
          refine cw_ret ?_
          obtain rfl := some_inj hF10
          exact ret1 Try.results268 (v1 := .agg #[.int .i64 0, .int .i64 0, .int .i64 0, .int .i64 0, .int .i64 0]) (resAt_cellA (B := some ⟨b, 0, none⟩) (i := 0) (cs := [.int .i64 0, .int .i64 0, .int .i64 0, .int .i64 0, .int .i64 0]) (vs := [.int .i64 0, .int .i64 0, .int .i64 0, .int .i64 0, .int .i64 0]) rfl k_ag_83 k_sz_83_5 (hS23.cf (i := 0) rfl) rfl rfl) ⟨rfl, (ST.subR (R' := []) (hS23.sel [] rfl rfl) (fun _ h => by cases h))⟩
        · skip
          have hF11 := cf' hF9 hb4
          refine cw_seq ?_
          refine cw_region ?_
          refine sq 60 rfl rfl (Y_move (v := .int .i64 i) rfl rfl) ?_
          refine sq 61 rfl rfl (Y_eq (k := .i64) (a := i) (b := 0) rfl rfl rfl) ?_
          refine sq 59 rfl rfl (Y_assign (v := .bool (i == 0)) rfl rfl) ?_
          refine rw_nil ?_
          refine cw_cond (b := (i == 0)) rfl (fun hb5 => ?_) (fun hb5 => ?_)
          · skip
            have hF12 := ct hF11 hb5
            refine cw_seq ?_
            refine cw_region ?_
            obtain ⟨r_3, hc2, hF12⟩ := bind_inv hF12
            refine sc 62 rfl rfl (Yc_func (g := 142) (vs := [.int .i64 1]) k_call_142 rfl (mc rfl mn) (c_impl_whole 1 _  (hS15.inn0 [] rfl) hc2)) ?_
            rintro _ w_16 ⟨rfl, hd2⟩
            have hS24 := hS15.out00 hd2
            have hS24 : ST w0 [] _ [⟨some ⟨b, 0, none⟩, 83, [.int .i64 0, .int .i64 0, .int .i64 0, .int .i64 0, .int .i64 0], 5⟩, ⟨some ⟨b1, 0, none⟩, 83, [.int .i64 1, .int .i64 0, .int .i64 0, .int .i64 0, .int .i64 1], 5⟩] [] := hS24
            refine ss0 rfl rfl (Ys_store (i := 0) (s := 5) (B := some ⟨b, 0, none⟩) (T' := 83) (v := .agg #[.int .i64 r_3.Num.A, .int .i64 r_3.Num.B, .int .i64 r_3.Num.C, .int .i64 r_3.Num.D, .int .i64 r_3.Exp]) (vs := [.int .i64 r_3.Num.A, .int .i64 r_3.Num.B, .int .i64 r_3.Num.C, .int .i64 r_3.Num.D, .int .i64 r_3.Exp]) (k := 0) (cs' := [.int .i64 r_3.Num.A, .int .i64 r_3.Num.B, .int .i64 r_3.Num.C, .int .i64 r_3.Num.D, .int .i64 r_3.Exp]) hS24 k_sz_83_5 rfl rfl rfl rfl rfl rfl rfl (Nat.le_of_ble_eq_true rfl) rfl rfl) ?_
            rintro _ w_17 ⟨rfl, hS25⟩
            have hS25 : ST w0 [] _ [⟨some ⟨b, 0, none⟩, 83, [.int .i64 r_3.Num.A, .int .i64 r_3.Num.B, .int .i64 r_3.Num.C, .int .i64 r_3.Num.D, .int .i64 r_3.Exp], 5⟩, ⟨some ⟨b1, 0, none⟩, 83, [.int .i64 1, .int .i64 0, .int .i64 0, .int .i64 0, .int .i64 1], 5⟩] [] := hS25
            refine rw_nil ?_
            refine cw_ret ?_
            obtain rfl := some_inj hF12
            exact ret1 Try.results268 (v1 := .agg #[.int .i64 r_3.Num.A, .int .i64 r_3.Num.B, .int .i64 r_3.Num.C, .int .i64 r_3.Num.D, .int .i64 r_3.Exp]) (resAt_cellA (B := some ⟨b, 0, none⟩) (i := 0) (cs := [.int .i64 r_3.Num.A, .int .i64 r_3.Num.B, .int .i64 r_3.Num.C, .int .i64 r_3.Num.D, .int .i64 r_3.Exp]) (vs := [.int .i64 r_3.Num.A, .int .i64 r_3.Num.B, .int .i64 r_3.Num.C, .int .i64 r_3.Num.D, .int .i64 r_3.Exp]) rfl k_ag_83 k_sz_83_5 (hS25.cf (i := 0) rfl) rfl rfl) ⟨rfl, (ST.subR (R' := []) (hS25.sel [] rfl rfl) (fun _ h => by cases h))⟩
          · skip
            have hF13 := cf' hF11 hb5
            refine cw_skip ?_
            refine cw_seq ?_
            refine cw_region ?_
            refine sq 63 rfl rfl (Y_move (v := .map (some g)) rfl rfl) ?_
            refine sq 64 rfl rfl (Y_move (v := .int .i64 kind) rfl rfl) ?_
            refine sq 65 rfl rfl (Y_lookup (kd := .i64) (ed := .i64) (k := kind) (l := [(4, 4), (5, 2), (6, 6), (7, 1), (8, 7)]) hS14.here rfl k_map_295_3_3 k_int_3_i64 k_zero_3 rfl rfl rfl) ?_
            obtain ⟨r_4, hc3, hF13⟩ := bind_inv hF13
            refine sc 66 rfl rfl (Yc_func (g := 176) (vs := [.int .i64 (mget [(4, 4), (5, 2), (6, 6), (7, 1), (8, 7)] kind)]) k_call_176 rfl (mc rfl mn) (c_impl_phase (mget [(4, 4), (5, 2), (6, 6), (7, 1), (8, 7)] kind) _  (hS15.inn0 [] rfl) hc3)) ?_
            rintro _ w_18 ⟨rfl, hd3⟩
            have hS26 := hS15.out00 hd3
            have hS26 : ST w0 [] _ [⟨some ⟨b, 0, none⟩, 83, [.int .i64 0, .int .i64 0, .int .i64 0, .int .i64 0, .int .i64 0], 5⟩, ⟨some ⟨b1, 0, none⟩, 83, [.int .i64 1, .int .i64 0, .int .i64 0, .int .i64 0, .int .i64 1], 5⟩] [] := hS26
            refine ss0 rfl rfl (Ys_store (i := 0) (s := 5) (B := some ⟨b, 0, none⟩) (T' := 83) (v := .agg #[.int .i64 r_4.Num.A, .int .i64 r_4.Num.B, .int .i64 r_4.Num.C, .int .i64 r_4.Num.D, .int .i64 r_4.Exp]) (vs := [.int .i64 r_4.Num.A, .int .i64 r_4.Num.B, .int .i64 r_4.Num.C, .int .i64 r_4.Num.D, .int .i64 r_4.Exp]) (k := 0) (cs' := [.int .i64 r_4.Num.A, .int .i64 r_4.Num.B, .int .i64 r_4.Num.C, .int .i64 r_4.Num.D, .int .i64 r_4.Exp]) hS26 k_sz_83_5 rfl rfl rfl rfl rfl rfl rfl (Nat.le_of_ble_eq_true rfl) rfl rfl) ?_
            rintro _ w_19 ⟨rfl, hS27⟩
            have hS27 : ST w0 [] _ [⟨some ⟨b, 0, none⟩, 83, [.int .i64 r_4.Num.A, .int .i64 r_4.Num.B, .int .i64 r_4.Num.C, .int .i64 r_4.Num.D, .int .i64 r_4.Exp], 5⟩, ⟨some ⟨b1, 0, none⟩, 83, [.int .i64 1, .int .i64 0, .int .i64 0, .int .i64 0, .int .i64 1], 5⟩] [] := hS27
            refine rw_nil ?_
            refine cw_ret ?_
            obtain rfl := some_inj hF13
            exact ret1 Try.results268 (v1 := .agg #[.int .i64 r_4.Num.A, .int .i64 r_4.Num.B, .int .i64 r_4.Num.C, .int .i64 r_4.Num.D, .int .i64 r_4.Exp]) (resAt_cellA (B := some ⟨b, 0, none⟩) (i := 0) (cs := [.int .i64 r_4.Num.A, .int .i64 r_4.Num.B, .int .i64 r_4.Num.C, .int .i64 r_4.Num.D, .int .i64 r_4.Exp]) (vs := [.int .i64 r_4.Num.A, .int .i64 r_4.Num.B, .int .i64 r_4.Num.C, .int .i64 r_4.Num.D, .int .i64 r_4.Exp]) rfl k_ag_83 k_sz_83_5 (hS27.cf (i := 0) rfl) rfl rfl) ⟨rfl, (ST.subR (R' := []) (hS27.sel [] rfl rfl) (fun _ h => by cases h))⟩

theorem c_impl_GateMatrix_1 (i : Int) (j : Int) (p : TGate) (p1 : Int) (B : Option Addr) (B1 : Option Addr) (w0 : World)  (hS : ST w0 [] w0 [] [⟨B, [.int .i64 p.Kind, .int .i64 p.A, .int .i64 p.B]⟩, ⟨B1, [.int .i64 p1]⟩]) {r_ : TDyadic} {r_1 : Bool} (hF : F_impl_GateMatrix_1 i j p p1 = some (r_, r_1)) :
    CV Try.prog 265 #[.int .i64 i, .int .i64 j, pt B 0, pt B1 0] w0 (fun v w' => v = .tuple #[.agg #[.int .i64 r_.Num.A, .int .i64 r_.Num.B, .int .i64 r_.Num.C, .int .i64 r_.Num.D, .int .i64 r_.Exp], .bool r_1] ∧ ST w0 [] w' [] []) := by
  unfold F_impl_GateMatrix_1 at hF
  refine cv_of_cw 75 Try.func265 rfl Try.ntmps265 rfl ?_
  refine cw_seq ?_
  refine cw_region ?_
  refine ss 6 rfl rfl (Ys_alloc (T := 83) (cs := [.int .i64 0, .int .i64 0, .int .i64 0, .int .i64 0, .int .i64 0]) (m := 5) hS k_zero_83 rfl rfl rfl) ?_
  rintro _ w_ ⟨b, rfl, hS1⟩
  refine sq 7 rfl rfl (Y_assign (v := .bool false) rfl rfl) ?_
  refine rw_nil ?_
  refine cw_seq ?_
  obtain ⟨z, hz, hF1⟩ := bind_inv hF
  refine cw_mid (fun f w => .inl () = z ∧ FF f [(6, pt (some ⟨b, 0, none⟩) 0)] ∧ ST w0 [] w [⟨some ⟨b, 0, none⟩, 83, [.int .i64 0, .int .i64 0, .int .i64 0, .int .i64 0, .int .i64 0], 5⟩] [⟨B, [.int .i64 p.Kind, .int .i64 p.A, .int .i64 p.B]⟩, ⟨B1, [.int .i64 p1]⟩]) ?_ ?_
  · skip
    refine cw_block ?_
    refine cw_seq ?_
    refine cw_region ?_
    refine sq 9 rfl rfl (Y_fieldAddr (B := B) (i := 0) (s := 0) k_fd_171_0_0_3 k_sz_3_1 rfl rfl) ?_
    refine sq 10 rfl rfl (Y_load1 (B := B) (i := 0) (cs := [.int .i64 p.Kind, .int .i64 p.A, .int .i64 p.B]) (v := .int .i64 p.Kind) k_sc_3 rfl rfl (hS1.rf (i := 0) rfl) rfl) ?_
    refine sq 11 rfl rfl (Y_eq (k := .i64) (a := p.Kind) (b := 12) rfl rfl rfl) ?_
    refine sq 8 rfl rfl (Y_assign (v := .bool (p.Kind == 12)) rfl rfl) ?_
    refine rw_nil ?_
    refine cw_cond (b := (p.Kind == 12)) rfl (fun hb => ?_) (fun hb => ?_)
    · skip
      have hF2 := ct hz hb
      refine cw_seq ?_
      refine cw_region ?_
      refine sq 12 rfl rfl (Y_move (v := .int .i64 i) rfl rfl) ?_
      refine sq 13 rfl rfl (Y_move (v := .int .i64 j) rfl rfl) ?_
      refine sq 14 rfl rfl (Y_eq (k := .i64) (a := i) (b := j) rfl rfl rfl) ?_
      refine rw_nil ?_
      refine cw_cond (b := (i == j)) rfl (fun hb1 => ?_) (fun hb1 => ?_)
      · skip
        have hF3 := ct hF2 hb1
        refine cw_seq ?_
        refine cw_region ?_
        obtain ⟨r_2, hc, hF3⟩ := bind_inv hF3
        refine sc 15 rfl rfl (Yc_func (g := 176) (vs := [.int .i64 1]) k_call_176 rfl (mc rfl mn) (c_impl_phase 1 _  (hS1.inn0 [] rfl) hc)) ?_
        rintro _ w_1 ⟨rfl, hd⟩
        have hS3 := hS1.out00 hd
        refine ss0 rfl rfl (Ys_store (i := 0) (s := 5) (B := some ⟨b, 0, none⟩) (T' := 83) (v := .agg #[.int .i64 r_2.Num.A, .int .i64 r_2.Num.B, .int .i64 r_2.Num.C, .int .i64 r_2.Num.D, .int .i64 r_2.Exp]) (vs := [.int .i64 r_2.Num.A, .int .i64 r_2.Num.B, .int .i64 r_2.Num.C, .int .i64 r_2.Num.D, .int .i64 r_2.Exp]) (k := 0) (cs' := [.int .i64 r_2.Num.A, .int .i64 r_2.Num.B, .int .i64 r_2.Num.C, .int .i64 r_2.Num.D, .int .i64 r_2.Exp]) hS3 k_sz_83_5 rfl rfl rfl rfl rfl rfl rfl (Nat.le_of_ble_eq_true rfl) rfl rfl) ?_
        rintro _ w_2 ⟨rfl, hS4⟩
        refine sq 7 rfl rfl (Y_assign (v := .bool true) rfl rfl) ?_
        refine rw_nil ?_
        refine cw_ret ?_
        obtain rfl := some_inj hF3
        obtain ⟨rfl, rfl⟩ := pr2 (some_inj hF1)
        exact ret2 Try.results265 (v1 := .agg #[.int .i64 r_2.Num.A, .int .i64 r_2.Num.B, .int .i64 r_2.Num.C, .int .i64 r_2.Num.D, .int .i64 r_2.Exp]) (resAt_cellA (B := some ⟨b, 0, none⟩) (i := 0) (cs := [.int .i64 r_2.Num.A, .int .i64 r_2.Num.B, .int .i64 r_2.Num.C, .int .i64 r_2.Num.D, .int .i64 r_2.Exp]) (vs := [.int .i64 r_2.Num.A, .int .i64 r_2.Num.B, .int .i64 r_2.Num.C, .int .i64 r_2.Num.D, .int .i64 r_2.Exp]) rfl k_ag_83 k_sz_83_5 (hS4.cf (i := 0) rfl) rfl rfl) (v2 := .bool true) (resAt_tmp rfl) ⟨rfl, (ST.subR (R' := []) (hS4.sel [] rfl rfl) (fun _ h => by cases h))⟩
      · skip
        have hF4 := cf' hF2 hb1
        refine cw_skip ?_
        exact ⟨(some_inj hF4), (FF.cons rfl FF.nil), (hS1.sel [0] rfl rfl)⟩
    · skip
      have hF5 := cf' hz hb
      refine cw_seq ?_
      refine cw_region ?_
      refine sq 17 rfl rfl (Y_fieldAddr (B := B) (i := 0) (s := 0) k_fd_171_0_0_3 k_sz_3_1 rfl rfl) ?_
      refine sq 18 rfl rfl (Y_load1 (B := B) (i := 0) (cs := [.int .i64 p.Kind, .int .i64 p.A, .int .i64 p.B]) (v := .int .i64 p.Kind) k_sc_3 rfl rfl (hS1.rf (i := 0) rfl) rfl) ?_
      obtain ⟨r_3, hc1, hF5⟩ := bind_inv hF5
      refine sc 19 rfl rfl (Yc_func (g := 264) (vs := [.int .i64 p.Kind]) k_call_264 rfl (mc rfl mn) (c_impl_isTwo p.Kind _  (hS1.inn0 [] rfl) hc1)) ?_
      rintro _ w_3 ⟨rfl, hd1⟩
      have hS5 := hS1.out00 hd1
      refine sq 16 rfl rfl (Y_assign (v := .bool r_3) rfl rfl) ?_
      refine rw_nil ?_
      refine cw_cond (b := r_3) rfl (fun hb2 => ?_) (fun hb2 => ?_)
      · skip
        have hF6 := ct hF5 hb2
        refine cw_seq ?_
        refine cw_region ?_
        refine sq 20 rfl rfl (Y_load1 (B := B1) (i := 0) (cs := [.int .i64 p1]) (v := .int .i64 p1) k_sc_3 rfl rfl (hS5.rf (i := 1) rfl) rfl) ?_
        refine sq 21 rfl rfl (Y_loadA (B := B) (i := 0) (cs := [.int .i64 p.Kind, .int .i64 p.A, .int .i64 p.B]) (vs := [.int .i64 p.Kind, .int .i64 p.A, .int .i64 p.B]) k_ag_171 k_sz_171_3 rfl rfl (hS5.rf (i := 0) rfl) rfl rfl) ?_
        refine sq 22 rfl rfl (Y_move (v := .int .i64 i) rfl rfl) ?_
        obtain ⟨r_4, hc2, hF6⟩ := bind_inv hF6
        refine sc 23 rfl rfl (Yc_func (g := 266) (vs := [.int .i64 p1, .agg #[.int .i64 p.Kind, .int .i64 p.A, .int .i64 p.B], .int .i64 i]) k_call_266 rfl (mc rfl (mc rfl (mc rfl mn))) (c_impl_comesFrom p1 p i _  (hS5.inn0 [] rfl) hc2)) ?_
        rintro _ w_4 ⟨rfl, hd2⟩
        have hS6 := hS5.out00 hd2
        refine sq 24 rfl rfl (Y_move (v := .int .i64 j) rfl rfl) ?_
        refine sq 25 rfl rfl (Y_eq (k := .i64) (a := r_4) (b := j) rfl rfl rfl) ?_
        refine rw_nil ?_
        refine cw_cond (b := (r_4 == j)) rfl (fun hb3 => ?_) (fun hb3 => ?_)
        · skip
          have hF7 := ct hF6 hb3
          refine cw_seq ?_
          refine cw_region ?_
          refine sq 26 rfl rfl (Y_fieldAddr (B := B) (i := 0) (s := 0) k_fd_171_0_0_3 k_sz_3_1 rfl rfl) ?_
          refine sq 27 rfl rfl (Y_load1 (B := B) (i := 0) (cs := [.int .i64 p.Kind, .int .i64 p.A, .int .i64 p.B]) (v := .int .i64 p.Kind) k_sc_3 rfl rfl (hS6.rf (i := 0) rfl) rfl) ?_
          refine sq 28 rfl rfl (Y_eq (k := .i64) (a := p.Kind) (b := 10) rfl rfl rfl) ?_
          refine sq 29 rfl rfl (Y_move (v := .bool (p.Kind == 10)) rfl rfl) ?_
          refine sgq 30 (B := (p.Kind == 10)) (v := .int .i64 p1) rfl rfl (wt_t (gd_of (t := 29) (by kernel_rfl) rfl)) (fun hg => (Y_load1 (B := B1) (i := 0) (cs := [.int .i64 p1]) (v := .int .i64 p1) k_sc_3 rfl rfl (hS6.rf (i := 1) rfl) rfl)) ?_
          refine sgq 31 (B := (p.Kind == 10)) (v := .int .i64 i) rfl rfl (wt_t (gd_of (t := 29) (by kernel_rfl) rfl)) (fun hg1 => (Y_move (v := .int .i64 i) rfl rfl)) ?_
          refine sgq 32 (B := (p.Kind == 10)) (v := pt B 1) rfl rfl (wt_t (gd_of (t := 29) (by kernel_rfl) rfl)) (fun hg2 => (Y_fieldAddr (B := B) (i := 0) (s := 0) k_fd_171_1_1_3 k_sz_3_1 rfl rfl)) ?_
          refine sgq 33 (B := (p.Kind == 10)) (v := .int .i64 p.A) rfl rfl (wt_t (gd_of (t := 29) (by kernel_rfl) rfl)) (fun hg3 => (Y_load1 (B := B) (i := 1) (cs := [.int .i64 p.Kind, .int .i64 p.A, .int .i64 p.B]) (v := .int .i64 p.A) k_sc_3 rfl (gv_of (B := (p.Kind == 10)) (v := pt B 1) hg3) (hS6.rf (i := 0) rfl) rfl)) ?_
          obtain ⟨r_5, hc3, hF7⟩ := bind_inv hF7
          refine sgc 34 (B := (p.Kind == 10)) (v := .int .i64 r_5) (F := hS6.fn) rfl rfl (wt_t (gd_of (t := 29) (by kernel_rfl) rfl)) hS6 (fun hg4 => (Yc_func (g := 115) (vs := [.int .i64 p1, .int .i64 i, .int .i64 p.A]) k_call_115 rfl (mc (gv_of (B := (p.Kind == 10)) (v := .int .i64 p1) hg4) (mc (gv_of (B := (p.Kind == 10)) (v := .int .i64 i) hg4) (mc (gv_of (B := (p.Kind == 10)) (v := .int .i64 p.A) hg4) mn))) (CV.mono (c_impl_bitOf p1 i p.A _  (hS6.inn0 [] rfl) (gb_inv hc3 hg4)) (by rintro _ _ ⟨rfl, h⟩; exact ⟨rfl, hS6.out00 h⟩)))) ?_
          rintro w_5 hS7
          have hS7 : ST _ _ w_5 _ _ := hS7
          refine sgq 35 (B := (p.Kind == 10)) (v := .bool (r_5 == 1)) rfl rfl (wt_t (gd_of (t := 29) (by kernel_rfl) rfl)) (fun hg5 => (Y_eq (k := .i64) (a := r_5) (b := 1) rfl (gv_of (B := (p.Kind == 10)) (v := .int .i64 r_5) hg5) rfl)) ?_
          refine sq 36 rfl rfl (Y_and (b := (p.Kind == 10)) (z := (r_5 == 1)) rfl rfl rfl rfl) ?_
          refine sq 37 rfl rfl (Y_move (v := .bool ((p.Kind == 10) && (r_5 == 1))) rfl rfl) ?_
          refine sgq 38 (B := ((p.Kind == 10) && (r_5 == 1))) (v := .int .i64 p1) rfl rfl (wt_t (gd_of (t := 37) (by kernel_rfl) rfl)) (fun hg6 => (Y_load1 (B := B1) (i := 0) (cs := [.int .i64 p1]) (v := .int .i64 p1) k_sc_3 rfl rfl (hS7.rf (i := 1) rfl) rfl)) ?_
          refine sgq 39 (B := ((p.Kind == 10) && (r_5 == 1))) (v := .int .i64 i) rfl rfl (wt_t (gd_of (t := 37) (by kernel_rfl) rfl)) (fun hg7 => (Y_move (v := .int .i64 i) rfl rfl)) ?_
          refine sgq 40 (B := ((p.Kind == 10) && (r_5 == 1))) (v := pt B 2) rfl rfl (wt_t (gd_of (t := 37) (by kernel_rfl) rfl)) (fun hg8 => (Y_fieldAddr (B := B) (i := 0) (s := 0) k_fd_171_2_2_3 k_sz_3_1 rfl rfl)) ?_
          refine sgq 41 (B := ((p.Kind == 10) && (r_5 == 1))) (v := .int .i64 p.B) rfl rfl (wt_t (gd_of (t := 37) (by kernel_rfl) rfl)) (fun hg9 => (Y_load1 (B := B) (i := 2) (cs := [.int .i64 p.Kind, .int .i64 p.A, .int .i64 p.B]) (v := .int .i64 p.B) k_sc_3 rfl (gv_of (B := ((p.Kind == 10) && (r_5 == 1))) (v := pt B 2) hg9) (hS7.rf (i := 0) rfl) rfl)) ?_
          obtain ⟨r_6, hc4, hF7⟩ := bind_inv hF7
          refine sgc 42 (B := ((p.Kind == 10) && (r_5 == 1))) (v := .int .i64 r_6) (F := hS7.fn) rfl rfl (wt_t (gd_of (t := 37) (by kernel_rfl) rfl)) hS7 (fun hg10 => (Yc_func (g := 115) (vs := [.int .i64 p1, .int .i64 i, .int .i64 p.B]) k_call_115 rfl (mc (gv_of (B := ((p.Kind == 10) && (r_5 == 1))) (v := .int .i64 p1) hg10) (mc (gv_of (B := ((p.Kind == 10) && (r_5 == 1))) (v := .int .i64 i) hg10) (mc (gv_of (B := ((p.Kind == 10) && (r_5 == 1))) (v := .int .i64 p.B) hg10) mn))) (CV.mono (c_impl_bitOf p1 i p.B _  (hS7.inn0 [] rfl) (gb_inv hc4 hg10)) (by rintro _ _ ⟨rfl, h⟩; exact ⟨rfl, hS7.out00 h⟩)))) ?_
          rintro w_6 hS8
          have hS8 : ST _ _ w_6 _ _ := hS8
          refine sgq 43 (B := ((p.Kind == 10) && (r_5 == 1))) (v := .bool (r_6 == 1)) rfl rfl (wt_t (gd_of (t := 37) (by kernel_rfl) rfl)) (fun hg11 => (Y_eq (k := .i64) (a := r_6) (b := 1) rfl (gv_of (B := ((p.Kind == 10) && (r_5 == 1))) (v := .int .i64 r_6) hg11) rfl)) ?_
          refine sq 44 rfl rfl (Y_and (b := ((p.Kind == 10) && (r_5 == 1))) (z := (r_6 == 1)) rfl rfl rfl rfl) ?_
          obtain ⟨r_7, hc5, hF7⟩ := bind_inv hF7
          refine sc 45 rfl rfl (Yc_func (g := 221) (vs := [.bool (((p.Kind == 10) && (r_5 == 1)) && (r_6 == 1))]) k_call_221 rfl (mc rfl mn) (c_impl_small (((p.Kind == 10) && (r_5 == 1)) && (r_6 == 1)) _  (hS8.inn0 [] rfl) hc5)) ?_
          rintro _ w_7 ⟨rfl, hd3⟩
          have hS9 := hS8.out00 hd3
          refine sq 46 rfl rfl (Y_mul (k := .i64) (a := 4) (b := r_7) rfl rfl rfl) ?_
          obtain ⟨r_8, hc6, hF7⟩ := bind_inv hF7
          refine sc 47 rfl rfl (Yc_func (g := 176) (vs := [.int .i64 (IntKind.i64.wrap (4 * r_7))]) k_call_176 rfl (mc rfl mn) (c_impl_phase (IntKind.i64.wrap (4 * r_7)) _  (hS9.inn0 [] rfl) hc6)) ?_
          rintro _ w_8 ⟨rfl, hd4⟩
          have hS10 := hS9.out00 hd4
          refine ss0 rfl rfl (Ys_store (i := 0) (s := 5) (B := some ⟨b, 0, none⟩) (T' := 83) (v := .agg #[.int .i64 r_8.Num.A, .int .i64 r_8.Num.B, .int .i64 r_8.Num.C, .int .i64 r_8.Num.D, .int .i64 r_8.Exp]) (vs := [.int .i64 r_8.Num.A, .int .i64 r_8.Num.B, .int .i64 r_8.Num.C, .int .i64 r_8.Num.D, .int .i64 r_8.Exp]) (k := 0) (cs' := [.int .i64 r_8.Num.A, .int .i64 r_8.Num.B, .int .i64 r_8.Num.C, .int .i64 r_8.Num.D, .int .i64 r_8.Exp]) hS10 k_sz_83_5 rfl rfl rfl rfl rfl rfl rfl (Nat.le_of_ble_eq_true rfl) rfl rfl) ?_
          rintro _ w_9 ⟨rfl, hS11⟩
          refine sq 7 rfl rfl (Y_assign (v := .bool true) rfl rfl) ?_
          refine rw_nil ?_
          refine cw_ret ?_
          obtain rfl := some_inj hF7
          obtain ⟨rfl, rfl⟩ := pr2 (some_inj hF1)
          exact ret2 Try.results265 (v1 := .agg #[.int .i64 r_8.Num.A, .int .i64 r_8.Num.B, .int .i64 r_8.Num.C, .int .i64 r_8.Num.D, .int .i64 r_8.Exp]) (resAt_cellA (B := some ⟨b, 0, none⟩) (i := 0) (cs := [.int .i64 r_8.Num.A, .int .i64 r_8.Num.B, .int .i64 r_8.Num.C, .int .i64 r_8.Num.D, .int .i64 r_8.Exp]) (vs := [.int .i64 r_8.Num.A, .int .i64 r_8.Num.B, .int .i64 r_8.Num.C, .int .i64 r_8.Num.D, .int .i64 r_8.Exp]) rfl k_ag_83 k_sz_83_5 (hS11.cf (i := 0) rfl) rfl rfl) (v2 := .bool true) (resAt_tmp rfl) ⟨rfl, (ST.subR (R' := []) (hS11.sel [] rfl rfl) (fun _ h => by cases h))⟩
        · skip
          have hF8 := cf' hF6 hb3
          refine cw_skip ?_
          exact ⟨(some_inj hF8), (FF.cons rfl FF.nil), (hS6.sel [0] rfl rfl)⟩
      · skip
        have hF9 := cf' hF5 hb2
        refine cw_seq ?_
        refine cw_region ?_
        refine sq 49 rfl rfl (Y_move (v := .int .i64 i) rfl rfl) ?_
        refine sq 50 rfl rfl (Y_move (v := .int .i64 j) rfl rfl) ?_
        refine sq 51 rfl rfl (Y_eq (k := .i64) (a := i) (b := j) rfl rfl rfl) ?_
        refine sq 52 rfl rfl (Y_move (v := .bool (i == j)) rfl rfl) ?_
        refine sgq 53 (B := (!(i == j))) (v := .int .i64 p1) rfl rfl (wt_f (gd_of (t := 52) (by kernel_rfl) rfl)) (fun hg12 => (Y_load1 (B := B1) (i := 0) (cs := [.int .i64 p1]) (v := .int .i64 p1) k_sc_3 rfl rfl (hS5.rf (i := 1) rfl) rfl)) ?_
        refine sgq 54 (B := (!(i == j))) (v := .int .i64 i) rfl rfl (wt_f (gd_of (t := 52) (by kernel_rfl) rfl)) (fun hg13 => (Y_move (v := .int .i64 i) rfl rfl)) ?_
        refine sgq 55 (B := (!(i == j))) (v := pt B 1) rfl rfl (wt_f (gd_of (t := 52) (by kernel_rfl) rfl)) (fun hg14 => (Y_fieldAddr (B := B) (i := 0) (s := 0) k_fd_171_1_1_3 k_sz_3_1 rfl rfl)) ?_
        refine sgq 56 (B := (!(i == j))) (v := .int .i64 p.A) rfl rfl (wt_f (gd_of (t := 52) (by kernel_rfl) rfl)) (fun hg15 => (Y_load1 (B := B) (i := 1) (cs := [.int .i64 p.Kind, .int .i64 p.A, .int .i64 p.B]) (v := .int .i64 p.A) k_sc_3 rfl (gv_of (B := (!(i == j))) (v := pt B 1) hg15) (hS5.rf (i := 0) rfl) rfl)) ?_
        obtain ⟨r_9, hc7, hF9⟩ := bind_inv hF9
        refine sgc 57 (B := (!(i == j))) (v := .int .i64 r_9) (F := hS5.fn) rfl rfl (wt_f (gd_of (t := 52) (by kernel_rfl) rfl)) hS5 (fun hg16 => (Yc_func (g := 267) (vs := [.int .i64 p1, .int .i64 i, .int .i64 p.A]) k_call_267 rfl (mc (gv_of (B := (!(i == j))) (v := .int .i64 p1) hg16) (mc (gv_of (B := (!(i == j))) (v := .int .i64 i) hg16) (mc (gv_of (B := (!(i == j))) (v := .int .i64 p.A) hg16) mn))) (CV.mono (c_impl_flipped p1 i p.A _  (hS5.inn0 [] rfl) (gb_inv hc7 hg16)) (by rintro _ _ ⟨rfl, h⟩; exact ⟨rfl, hS5.out00 h⟩)))) ?_
        rintro w_10 hS12
        have hS12 : ST _ _ w_10 _ _ := hS12
        refine sgq 58 (B := (!(i == j))) (v := .int .i64 j) rfl rfl (wt_f (gd_of (t := 52) (by kernel_rfl) rfl)) (fun hg17 => (Y_move (v := .int .i64 j) rfl rfl)) ?_
        refine sgq 59 (B := (!(i == j))) (v := .bool (r_9 == j)) rfl rfl (wt_f (gd_of (t := 52) (by kernel_rfl) rfl)) (fun hg18 => (Y_eq (k := .i64) (a := r_9) (b := j) rfl (gv_of (B := (!(i == j))) (v := .int .i64 r_9) hg18) (gv_of (B := (!(i == j))) (v := .int .i64 j) hg18))) ?_
        refine sq 60 rfl rfl (Y_or (b := (i == j)) (z := (r_9 == j)) rfl rfl rfl rfl) ?_
        refine sq 48 rfl rfl (Y_assign (v := .bool ((i == j) || (r_9 == j))) rfl rfl) ?_
        refine rw_nil ?_
        refine cw_cond (b := ((i == j) || (r_9 == j))) rfl (fun hb4 => ?_) (fun hb4 => ?_)
        · skip
          have hF10 := ct hF9 hb4
          refine cw_seq ?_
          obtain ⟨r_10, hc8, hF10⟩ := bind_inv hF10
          obtain ⟨r_11, hc9, hF10⟩ := bind_inv hF10
          obtain ⟨r_12, hc10, hF10⟩ := bind_inv hF10
          refine ra_start (ST.sel hS12 [] rfl rfl).fn (by kernel_rfl) ?_
          have hS16 := hS12.drew
          refine ra_q 0 61 (v := pt B 0) rfl rfl rfl (by kernel_rfl) (by kernel_rfl) (by kernel_rfl) (ST.sel hS16 [] rfl rfl) (fun w' hw' => (Y_fieldAddr (B := B) (i := 0) (s := 0) k_fd_171_0_0_3 k_sz_3_1 rfl rfl)) ?_
          refine ra_q 1 62 (v := .int .i64 p.Kind) rfl rfl rfl (by kernel_rfl) (by kernel_rfl) (by kernel_rfl) (ST.sel hS16 [] rfl rfl) (fun w' hw' => (Y_load1 (B := B) (i := 0) (cs := [.int .i64 p.Kind, .int .i64 p.A, .int .i64 p.B]) (v := .int .i64 p.Kind) k_sc_3 rfl rfl (ST.rf hw' (i := 0) rfl) rfl)) ?_
          refine ra_q 2 63 (v := .int .i64 p1) rfl rfl rfl (by kernel_rfl) (by kernel_rfl) (by kernel_rfl) (ST.sel hS16 [] rfl rfl) (fun w' hw' => (Y_load1 (B := B1) (i := 0) (cs := [.int .i64 p1]) (v := .int .i64 p1) k_sc_3 rfl rfl (ST.rf hw' (i := 1) rfl) rfl)) ?_
          refine ra_q 3 64 (v := .int .i64 i) rfl rfl rfl (by kernel_rfl) (by kernel_rfl) (by kernel_rfl) (ST.sel hS16 [] rfl rfl) (fun w' hw' => (Y_move (v := .int .i64 i) rfl rfl)) ?_
          refine ra_q 4 65 (v := pt B 1) rfl rfl rfl (by kernel_rfl) (by kernel_rfl) (by kernel_rfl) (ST.sel hS16 [] rfl rfl) (fun w' hw' => (Y_fieldAddr (B := B) (i := 0) (s := 0) k_fd_171_1_1_3 k_sz_3_1 rfl rfl)) ?_
          refine ra_q 5 66 (v := .int .i64 p.A) rfl rfl rfl (by kernel_rfl) (by kernel_rfl) (by kernel_rfl) (ST.sel hS16 [] rfl rfl) (fun w' hw' => (Y_load1 (B := B) (i := 1) (cs := [.int .i64 p.Kind, .int .i64 p.A, .int .i64 p.B]) (v := .int .i64 p.A) k_sc_3 rfl rfl (ST.rf hw' (i := 0) rfl) rfl)) ?_
          refine ra_q 7 68 (v := .int .i64 p1) rfl rfl rfl (by kernel_rfl) (by kernel_rfl) (by kernel_rfl) (ST.sel hS16 [] rfl rfl) (fun w' hw' => (Y_load1 (B := B1) (i := 0) (cs := [.int .i64 p1]) (v := .int .i64 p1) k_sc_3 rfl rfl (ST.rf hw' (i := 1) rfl) rfl)) ?_
          refine ra_q 8 69 (v := .int .i64 j) rfl rfl rfl (by kernel_rfl) (by kernel_rfl) (by kernel_rfl) (ST.sel hS16 [] rfl rfl) (fun w' hw' => (Y_move (v := .int .i64 j) rfl rfl)) ?_
          refine ra_q 9 70 (v := pt B 1) rfl rfl rfl (by kernel_rfl) (by kernel_rfl) (by kernel_rfl) (ST.sel hS16 [] rfl rfl) (fun w' hw' => (Y_fieldAddr (B := B) (i := 0) (s := 0) k_fd_171_1_1_3 k_sz_3_1 rfl rfl)) ?_
          refine ra_q 10 71 (v := .int .i64 p.A) rfl rfl rfl (by kernel_rfl) (by kernel_rfl) (by kernel_rfl) (ST.sel hS16 [] rfl rfl) (fun w' hw' => (Y_load1 (B := B) (i := 1) (cs := [.int .i64 p.Kind, .int .i64 p.A, .int .i64 p.B]) (v := .int .i64 p.A) k_sc_3 rfl rfl (ST.rf hw' (i := 0) rfl) rfl)) ?_
          refine ra_all (rs := [6]) (by kernel_rfl) rfl ?_
          refine ra_c 67 (i := 6) rfl rfl rfl (Yc_func (g := 115) (vs := [.int .i64 p1, .int .i64 i, .int .i64 p.A]) k_call_115 rfl (mc rfl (mc rfl (mc rfl mn))) (c_impl_bitOf p1 i p.A _  (hS16.inn0 [] rfl) hc8)) ?_ ?_
          · rintro _ w_11 ⟨rfl, hd5⟩
            have hS17 := hS16.out00 hd5
            refine ⟨(ST.sel hS17 [] rfl rfl), ?_⟩
            refine ra_all (rs := [11]) (by kernel_rfl) rfl ?_
            refine ra_c 72 (i := 11) rfl rfl rfl (Yc_func (g := 115) (vs := [.int .i64 p1, .int .i64 j, .int .i64 p.A]) k_call_115 rfl (mc rfl (mc rfl (mc rfl mn))) (c_impl_bitOf p1 j p.A _  (hS17.inn0 [] rfl) hc9)) ?_ ?_
            · rintro _ w_12 ⟨rfl, hd6⟩
              have hS18 := hS17.out00 hd6
              refine ⟨(ST.sel hS18 [] rfl rfl), ?_⟩
              refine ra_all (rs := [12]) (by kernel_rfl) rfl ?_
              refine ra_c 73 (i := 12) rfl rfl rfl (Yc_func (g := 268) (vs := [.int .i64 p.Kind, .int .i64 r_10, .int .i64 r_11]) k_call_268 rfl (mc rfl (mc rfl (mc rfl mn))) (c_impl_entry p.Kind r_10 r_11 _  (hS18.inn0 [] rfl) hc10)) ?_ ?_
              · rintro _ w_13 ⟨rfl, hd7⟩
                have hS19 := hS18.out00 hd7
                refine ⟨(ST.sel hS19 [] rfl rfl), ?_⟩
                refine ra_all (rs := [13]) (by kernel_rfl) rfl ?_
                refine ra_s0 (i := 13) rfl rfl rfl (Ys_store (i := 0) (s := 5) (B := some ⟨b, 0, none⟩) (T' := 83) (v := .agg #[.int .i64 r_12.Num.A, .int .i64 r_12.Num.B, .int .i64 r_12.Num.C, .int .i64 r_12.Num.D, .int .i64 r_12.Exp]) (vs := [.int .i64 r_12.Num.A, .int .i64 r_12.Num.B, .int .i64 r_12.Num.C, .int .i64 r_12.Num.D, .int .i64 r_12.Exp]) (k := 0) (cs' := [.int .i64 r_12.Num.A, .int .i64 r_12.Num.B, .int .i64 r_12.Num.C, .int .i64 r_12.Num.D, .int .i64 r_12.Exp]) hS19 k_sz_83_5 rfl rfl rfl rfl rfl rfl rfl (Nat.le_of_ble_eq_true rfl) rfl rfl) ?_ ?_
                · rintro _ w_14 ⟨rfl, hS20⟩
                  refine ⟨(ST.sel hS20 [] rfl rfl), ?_⟩
                  refine ra_q 14 7 (v := .bool true) rfl rfl rfl (by kernel_rfl) (by kernel_rfl) (by kernel_rfl) (ST.sel hS20 [] rfl rfl) (fun w' hw' => (Y_assign (v := .bool true) rfl rfl)) ?_
                  refine ra_done (by kernel_rfl) ?_
                  refine cw_ret ?_
                  obtain rfl := some_inj hF10
                  obtain ⟨rfl, rfl⟩ := pr2 (some_inj hF1)
                  exact ret2 Try.results265 (v1 := .agg #[.int .i64 r_12.Num.A, .int .i64 r_12.Num.B, .int .i64 r_12.Num.C, .int .i64 r_12.Num.D, .int .i64 r_12.Exp]) (resAt_cellA (B := some ⟨b, 0, none⟩) (i := 0) (cs := [.int .i64 r_12.Num.A, .int .i64 r_12.Num.B, .int .i64 r_12.Num.C, .int .i64 r_12.Num.D, .int .i64 r_12.Exp]) (vs := [.int .i64 r_12.Num.A, .int .i64 r_12.Num.B, .int .i64 r_12.Num.C, .int .i64 r_12.Num.D, .int .i64 r_12.Exp]) rfl k_ag_83 k_sz_83_5 (hS20.cf (i := 0) rfl) rfl rfl) (v2 := .bool true) (resAt_tmp rfl) ⟨rfl, (ST.subR (R' := []) (hS20.sel [] rfl rfl) (fun _ h => by cases h))⟩
                exact allR_nil
              exact allR_nil
            exact allR_nil
          exact allR_nil
        · skip
          have hF11 := cf' hF9 hb4
          refine cw_skip ?_
          exact ⟨(some_inj hF11), (FF.cons rfl FF.nil), (hS12.sel [0] rfl rfl)⟩
  rintro f w ⟨rfl, hf, hS2⟩
  refine cw_seq ?_
  refine cw_region ?_
  refine sq 74 rfl rfl (Y_buildS (zs := [.int .i64 0, .int .i64 0, .int .i64 0, .int .i64 0, .int .i64 0]) (vs := []) (cs := [.int .i64 0, .int .i64 0, .int .i64 0, .int .i64 0, .int .i64 0]) k_pl_83 k_zero_83 rfl mpn rfl) ?_
  refine ss0 rfl rfl (Ys_store (i := 0) (s := 5) (B := some ⟨b, 0, none⟩) (T' := 83) (v := .agg #[.int .i64 0, .int .i64 0, .int .i64 0, .int .i64 0, .int .i64 0]) (vs := [.int .i64 0, .int .i64 0, .int .i64 0, .int .i64 0, .int .i64 0]) (k := 0) (cs' := [.int .i64 0, .int .i64 0, .int .i64 0, .int .i64 0, .int .i64 0]) hS2 k_sz_83_5 rfl (hf.get 6 0 rfl) rfl rfl rfl rfl rfl (Nat.le_of_ble_eq_true rfl) rfl rfl) ?_
  rintro _ w_15 ⟨rfl, hS21⟩
  refine sq 7 rfl rfl (Y_assign (v := .bool true) rfl rfl) ?_
  refine rw_nil ?_
  refine cw_ret ?_
  obtain ⟨rfl, rfl⟩ := pr2 (some_inj hF1)
  exact ret2 Try.results265 (v1 := .agg #[.int .i64 0, .int .i64 0, .int .i64 0, .int .i64 0, .int .i64 0]) (resAt_cellA (B := some ⟨b, 0, none⟩) (i := 0) (cs := [.int .i64 0, .int .i64 0, .int .i64 0, .int .i64 0, .int .i64 0]) (vs := [.int .i64 0, .int .i64 0, .int .i64 0, .int .i64 0, .int .i64 0]) (hf.get 6 0 rfl) k_ag_83 k_sz_83_5 (hS21.cf (i := 0) rfl) rfl rfl) (v2 := .bool true) (resAt_tmp rfl) ⟨rfl, (ST.subR (R' := []) (hS21.sel [] rfl rfl) (fun _ h => by cases h))⟩

theorem c_impl_GateMatrix (n : Int) (g : TGate)  (w0 : World)  (hS : ST w0 [] w0 [] []) {r_ : TMatrix} {r_1 : Bool} (hF : F_impl_GateMatrix n g = some (r_, r_1)) :
    CV Try.prog 218 #[.int .i64 n, .agg #[.int .i64 g.Kind, .int .i64 g.A, .int .i64 g.B]] w0 (fun v w' => ∃ (B : Option Addr) (c : Nat), v = .tuple #[.agg #[.int .i64 r_.Rows, .int .i64 r_.Cols, .slice B r_.Cells.length c], .bool r_1] ∧ ST w0 [] w' [⟨B, 83, (r_.Cells.flatMap enc_Dyadic), c * 5⟩] []) := by
  unfold F_impl_GateMatrix at hF
  refine cv_of_cw 19 Try.func218 rfl Try.ntmps218 rfl ?_
  refine cw_seq ?_
  refine cw_region ?_
  refine ss 2 rfl rfl (Ys_box (T := 3) (v := .int .i64 n) (cs := [.int .i64 n]) (m := 1) hS rfl rfl rfl rfl) ?_
  rintro _ w_ ⟨b, rfl, hS1⟩
  refine ss 3 rfl rfl (Ys_box (T := 171) (v := .agg #[.int .i64 g.Kind, .int .i64 g.A, .int .i64 g.B]) (cs := [.int .i64 g.Kind, .int .i64 g.A, .int .i64 g.B]) (m := 3) hS1 rfl rfl rfl rfl) ?_
  rintro _ w_1 ⟨b1, rfl, hS2⟩
  have hS2 : ST w0 [] _ [⟨some ⟨b, 0, none⟩, 3, [.int .i64 n], 1⟩, ⟨some ⟨b1, 0, none⟩, 171, [.int .i64 g.Kind, .int .i64 g.A, .int .i64 g.B], 3⟩] [] := hS2
  refine ss 4 rfl rfl (Ys_alloc (T := 26) (cs := [.int .i64 0, .int .i64 0, .slice none 0 0]) (m := 3) hS2 k_zero_26 rfl rfl rfl) ?_
  rintro _ w_2 ⟨b2, rfl, hS3⟩
  have hS3 : ST w0 [] _ [⟨some ⟨b, 0, none⟩, 3, [.int .i64 n], 1⟩, ⟨some ⟨b1, 0, none⟩, 171, [.int .i64 g.Kind, .int .i64 g.A, .int .i64 g.B], 3⟩, ⟨some ⟨b2, 0, none⟩, 26, [.int .i64 0, .int .i64 0, .slice none 0 0], 3⟩] [] := hS3
  refine sq 5 rfl rfl (Y_assign (v := .bool false) rfl rfl) ?_
  refine rw_nil ?_
  refine cw_seq ?_
  refine cw_seq ?_
  refine cw_region ?_
  refine sq 6 rfl rfl (Y_load1 (B := some ⟨b, 0, none⟩) (i := 0) (cs := [.int .i64 n]) (v := .int .i64 n) k_sc_3 rfl rfl (hS3.cf (i := 0) rfl) rfl) ?_
  refine sq 7 rfl rfl (Y_loadA (B := some ⟨b1, 0, none⟩) (i := 0) (cs := [.int .i64 g.Kind, .int .i64 g.A, .int .i64 g.B]) (vs := [.int .i64 g.Kind, .int .i64 g.A, .int .i64 g.B]) k_ag_171 k_sz_171_3 rfl rfl (hS3.cf (i := 1) rfl) rfl rfl) ?_
  obtain ⟨r_2, hc, hF⟩ := bind_inv hF
  refine sc 8 rfl rfl (Yc_func (g := 217) (vs := [.int .i64 n, .agg #[.int .i64 g.Kind, .int .i64 g.A, .int .i64 g.B]]) k_call_217 rfl (mc rfl (mc rfl mn)) (c_impl_IsValidGate n g _  (hS3.inn0 [] rfl) hc)) ?_
  rintro _ w_3 ⟨rfl, hd⟩
  have hS4 := hS3.out00 hd
  have hS4 : ST w0 [] _ [⟨some ⟨b, 0, none⟩, 3, [.int .i64 n], 1⟩, ⟨some ⟨b1, 0, none⟩, 171, [.int .i64 g.Kind, .int .i64 g.A, .int .i64 g.B], 3⟩, ⟨some ⟨b2, 0, none⟩, 26, [.int .i64 0, .int .i64 0, .slice none 0 0], 3⟩] [] := hS4
  refine sq 9 rfl rfl (Y_not (p := r_2) rfl rfl) ?_
  refine rw_nil ?_
  refine cw_cond (b := (!r_2)) rfl (fun hb => ?_) (fun hb => ?_)
  · skip
    have hF1 := ct hF hb
    refine cw_seq ?_
    refine cw_region ?_
    refine sq 10 rfl rfl (Y_buildS (zs := [.int .i64 0, .int .i64 0, .slice none 0 0]) (vs := []) (cs := [.int .i64 0, .int .i64 0, .slice none 0 0]) k_pl_26 k_zero_26 rfl mpn rfl) ?_
    refine ss0 rfl rfl (Ys_store (i := 2) (s := 3) (B := some ⟨b2, 0, none⟩) (T' := 26) (v := .agg #[.int .i64 0, .int .i64 0, .slice none 0 0]) (vs := [.int .i64 0, .int .i64 0, .slice none 0 0]) (k := 0) (cs' := [.int .i64 0, .int .i64 0, .slice none 0 0]) hS4 k_sz_26_3 rfl rfl rfl rfl rfl rfl rfl (Nat.le_of_ble_eq_true rfl) rfl rfl) ?_
    rintro _ w_4 ⟨rfl, hS5⟩
    have hS5 : ST w0 [] _ [⟨some ⟨b, 0, none⟩, 3, [.int .i64 n], 1⟩, ⟨some ⟨b1, 0, none⟩, 171, [.int .i64 g.Kind, .int .i64 g.A, .int .i64 g.B], 3⟩, ⟨some ⟨b2, 0, none⟩, 26, [.int .i64 0, .int .i64 0, .slice none 0 0], 3⟩] [] := hS5
    refine sq 5 rfl rfl (Y_assign (v := .bool false) rfl rfl) ?_
    refine rw_nil ?_
    refine cw_ret ?_
    have hS6 := hS5.addNil 83
    obtain ⟨rfl, rfl⟩ := pr2 (some_inj hF1)
    exact ret2 Try.results218 (v1 := .agg #[.int .i64 0, .int .i64 0, .slice none 0 0]) (resAt_cellA (B := some ⟨b2, 0, none⟩) (i := 0) (cs := [.int .i64 0, .int .i64 0, .slice none 0 0]) (vs := [.int .i64 0, .int .i64 0, .slice none 0 0]) rfl k_ag_26 k_sz_26_3 (hS6.cf (i := 2) rfl) rfl rfl) (v2 := .bool false) (resAt_tmp rfl) ⟨none, 0, rfl, (ST.subR (R' := []) (hS6.sel [3] rfl rfl) (fun _ h => by cases h))⟩
  · skip
    have hF2 := cf' hF hb
    refine cw_skip ?_
    refine cw_seq ?_
    obtain ⟨hsh, hF2⟩ := chk_inv hF2
    obtain ⟨hsh1, hF2⟩ := chk_inv hF2
    obtain ⟨⟨r_3, r_4⟩, hc1, hF2⟩ := bind_inv hF2
    refine ra_start (ST.sel hS4 [0, 1] rfl rfl).fn (by kernel_rfl) ?_
    have hS8 := hS4.drew
    refine ra_q 0 11 (v := .int .i64 n) rfl rfl rfl (by kernel_rfl) (by kernel_rfl) (by kernel_rfl) (ST.sel hS8 [0, 1] rfl rfl) (fun w' hw' => (Y_load1 (B := some ⟨b, 0, none⟩) (i := 0) (cs := [.int .i64 n]) (v := .int .i64 n) k_sc_3 rfl rfl (ST.cf hw' (i := 0) rfl) rfl)) ?_
    refine ra_q 1 12 (v := .int .i64 (shlK .i64 1 n)) rfl rfl rfl (by kernel_rfl) (by kernel_rfl) (by kernel_rfl) (ST.sel hS8 [0, 1] rfl rfl) (fun w' hw' => (Y_shl (k := .i64) (a := 1) (k' := .i64) (b := n) rfl rfl rfl hsh)) ?_
    refine ra_q 2 13 (v := .int .i64 n) rfl rfl rfl (by kernel_rfl) (by kernel_rfl) (by kernel_rfl) (ST.sel hS8 [0, 1] rfl rfl) (fun w' hw' => (Y_load1 (B := some ⟨b, 0, none⟩) (i := 0) (cs := [.int .i64 n]) (v := .int .i64 n) k_sc_3 rfl rfl (ST.cf hw' (i := 0) rfl) rfl)) ?_
    refine ra_q 3 14 (v := .int .i64 (shlK .i64 1 n)) rfl rfl rfl (by kernel_rfl) (by kernel_rfl) (by kernel_rfl) (ST.sel hS8 [0, 1] rfl rfl) (fun w' hw' => (Y_shl (k := .i64) (a := 1) (k' := .i64) (b := n) rfl rfl rfl hsh1)) ?_
    refine ra_q 4 15 (v := .func (.func 265) #[] #[pt (some ⟨b1, 0, none⟩) 0, pt (some ⟨b, 0, none⟩) 0]) rfl rfl rfl (by kernel_rfl) (by kernel_rfl) (by kernel_rfl) (ST.sel hS8 [0, 1] rfl rfl) (fun w' hw' => (Y_makeFunc (cs := [pt (some ⟨b1, 0, none⟩) 0, pt (some ⟨b, 0, none⟩) 0]) rfl rfl (mc rfl (mc rfl mn)))) ?_
    refine ra_all (rs := [5]) (by kernel_rfl) rfl ?_
    refine ra_c 16 (i := 5) rfl rfl rfl (Yc_func (g := 140) (vs := [.int .i64 (shlK .i64 1 n), .int .i64 (shlK .i64 1 n), .func (.func 265) #[] #[pt (some ⟨b1, 0, none⟩) 0, pt (some ⟨b, 0, none⟩) 0]]) k_call_140 rfl (mc rfl (mc rfl (mc rfl mn))) (c_impl_matrixOf (shlK .i64 1 n) (shlK .i64 1 n) (fun x_0 x_1 => F_impl_GateMatrix_1 x_0 x_1 g n) 265 (#[pt (some ⟨b1, 0, none⟩) 0, pt (some ⟨b, 0, none⟩) 0]) [⟨some ⟨b1, 0, none⟩, [.int .i64 g.Kind, .int .i64 g.A, .int .i64 g.B]⟩, ⟨some ⟨b, 0, none⟩, [.int .i64 n]⟩] _ k_call_265 (fun w hw x_0 x_1 y_0 y_1 h_ => c_impl_GateMatrix_1 x_0 x_1 g n (some ⟨b1, 0, none⟩) (some ⟨b, 0, none⟩) w  hw h_) (hS8.inn0 [(false, 1), (false, 0)] rfl) hc1)) ?_ ?_
    · rintro _ w_5 ⟨B1, c1, rfl, hd1⟩
      have hS9 := hS8.out0 hd1
      have hS9 : ST w0 [] _ [⟨some ⟨b, 0, none⟩, 3, [.int .i64 n], 1⟩, ⟨some ⟨b1, 0, none⟩, 171, [.int .i64 g.Kind, .int .i64 g.A, .int .i64 g.B], 3⟩, ⟨some ⟨b2, 0, none⟩, 26, [.int .i64 0, .int .i64 0, .slice none 0 0], 3⟩, ⟨B1, 83, (r_3.Cells.flatMap enc_Dyadic), c1 * 5⟩] [] := hS9
      refine ⟨(ST.sel hS9 [0, 1] rfl rfl), ?_⟩
      refine ra_q 6 17 (v := .agg #[.int .i64 r_3.Rows, .int .i64 r_3.Cols, .slice B1 r_3.Cells.length c1]) rfl rfl rfl (by kernel_rfl) (by kernel_rfl) (by kernel_rfl) (ST.sel hS9 [0, 1] rfl rfl) (fun w' hw' => (Y_extract (v := .agg #[.int .i64 r_3.Rows, .int .i64 r_3.Cols, .slice B1 r_3.Cells.length c1]) rfl rfl rfl)) ?_
      refine ra_q 7 18 (v := .bool r_4) rfl rfl rfl (by kernel_rfl) (by kernel_rfl) (by kernel_rfl) (ST.sel hS9 [0, 1] rfl rfl) (fun w' hw' => (Y_extract (v := .bool r_4) rfl rfl rfl)) ?_
      refine ra_all (rs := [8]) (by kernel_rfl) rfl ?_
      refine ra_s0 (i := 8) rfl rfl rfl (Ys_store (i := 2) (s := 3) (B := some ⟨b2, 0, none⟩) (T' := 26) (v := .agg #[.int .i64 r_3.Rows, .int .i64 r_3.Cols, .slice B1 r_3.Cells.length c1]) (vs := [.int .i64 r_3.Rows, .int .i64 r_3.Cols, .slice B1 r_3.Cells.length c1]) (k := 0) (cs' := [.int .i64 r_3.Rows, .int .i64 r_3.Cols, .slice B1 r_3.Cells.length c1]) hS9 k_sz_26_3 rfl rfl rfl rfl rfl rfl rfl (Nat.le_of_ble_eq_true rfl) rfl rfl) ?_ ?_
      · rintro _ w_6 ⟨rfl, hS10⟩
        have hS10 : ST w0 [] _ [⟨some ⟨b, 0, none⟩, 3, [.int .i64 n], 1⟩, ⟨some ⟨b1, 0, none⟩, 171, [.int .i64 g.Kind, .int .i64 g.A, .int .i64 g.B], 3⟩, ⟨some ⟨b2, 0, none⟩, 26, [.int .i64 r_3.Rows, .int .i64 r_3.Cols, .slice B1 r_3.Cells.length c1], 3⟩, ⟨B1, 83, (r_3.Cells.flatMap enc_Dyadic), c1 * 5⟩] [] := hS10
        refine ⟨(ST.sel hS10 [0, 1] rfl rfl), ?_⟩
        refine ra_q 9 5 (v := .bool r_4) rfl rfl rfl (by kernel_rfl) (by kernel_rfl) (by kernel_rfl) (ST.sel hS10 [0, 1] rfl rfl) (fun w' hw' => (Y_assign (v := .bool r_4) rfl rfl)) ?_
        refine ra_done (by kernel_rfl) ?_
        refine cw_ret ?_
        obtain ⟨rfl, rfl⟩ := pr2 (some_inj hF2)
        exact ret2 Try.results218 (v1 := .agg #[.int .i64 r_3.Rows, .int .i64 r_3.Cols, .slice B1 r_3.Cells.length c1]) (resAt_cellA (B := some ⟨b2, 0, none⟩) (i := 0) (cs := [.int .i64 r_3.Rows, .int .i64 r_3.Cols, .slice B1 r_3.Cells.length c1]) (vs := [.int .i64 r_3.Rows, .int .i64 r_3.Cols, .slice B1 r_3.Cells.length c1]) rfl k_ag_26 k_sz_26_3 (hS10.cf (i := 2) rfl) rfl rfl) (v2 := .bool r_4) (resAt_tmp rfl) ⟨B1, c1, rfl, (ST.subR (R' := []) (hS10.sel [3] rfl rfl) (fun _ h => by cases h))⟩
      exact allR_nil
    exact allR_nil
end Go.VK
